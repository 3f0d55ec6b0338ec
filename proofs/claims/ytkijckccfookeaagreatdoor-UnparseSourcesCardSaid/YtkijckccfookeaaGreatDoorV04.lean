/- Lemmas. -/
import Derived.Test.YtkijckccfookeaaGreatDoorV03
import Derived.Shelf.RegionOpen
import Derived.OwnWalkIn
import Derived.LoopNIn
import Derived.LoopIn
import Derived.Deep.RegionHeld3
import Derived.Deep.RegionLaw
import Derived.Lib.OthersKept
set_option linter.unusedVariables false
set_option linter.unusedSimpArgs false
set_option maxRecDepth 100000
set_option maxHeartbeats 32000000
namespace Go.Proofs.YtkijckccfookeaaGreatDoor
section
open Go.RowKit Go.Shelf
attribute [local go_sem] Oper.semAt_some
theorem TV (w:World)(s:B)(h:∀c∈s,c≠10):Calls Tryz.prog 162 #[.string ⟨s.toArray⟩,.string ⟨#[10]⟩] w fun e w'=>e= .returned (.int .i64 (-1))/\w=w':=by
 refine(Hw w s).mono ?_;rintro e w' ⟨rfl,rfl⟩;refine⟨?_,rfl⟩;have:Lib.indexByte s 10= -1:=by
  by_cases h1:Lib.indexByte s 10= -1
  ·exact h1
  have hge:=Lib.indexByte_ge s 10;obtain⟨h2,-⟩:=Lib.indexByte_some (l:=s) (c:=10) (o:=(Lib.indexByte s 10).toNat) (by omega);exact absurd rfl (h 10 (akt h2))
 rw[this]
theorem SE (w:World)(s:B)(o:Nat)(h:s[o]? =some 10)(hn:∀c∈s.take o,c≠10):Calls Tryz.prog 162 #[.string ⟨s.toArray⟩,.string ⟨#[10]⟩] w fun e w'=>e= .returned (.int .i64 o)/\w=w':=by
 refine(Hw w s).mono ?_;rintro e w' ⟨rfl,rfl⟩;refine⟨?_,rfl⟩;have:Lib.indexByte s 10=o:=by
  by_cases h1:Lib.indexByte s 10= -1
  ·exact absurd h (Lib.indexByte_none h1 o)
  have hge:=Lib.indexByte_ge s 10;obtain⟨h2,h3⟩:=Lib.indexByte_some (l:=s) (c:=10) (o:=(Lib.indexByte s 10).toNat) (by omega);have a1:¬(Lib.indexByte s 10).toNat<o:=fun hlt=>hn 10 (by
   rw[akG];exact⟨_,by rw[akP,if_pos hlt];exact h2⟩) rfl
  have a2:¬o<(Lib.indexByte s 10).toNat:=fun hlt=>h3 o hlt h
  omega
 rw[this]
theorem Zy (s:B):(∀c∈s,c≠10)\/∃o,s[o]? =some 10/\∀c∈s.take o,c≠10:=by
 induction s with
 |nil=>left;simp
 |cons c r ih=>
  by_cases hc:c=10
  ·right;exact⟨0,by simp[hc],by simp⟩
  rcases ih with h|⟨o,h1,h2⟩
  ·left;intro d hd;rcases akx.1 hd with rfl|hd
   ·exact hc
   exact h d hd
  right;refine⟨o+1,by simpa using h1,fun d hd=> ?_⟩;rw[List.take_succ_cons] at hd;rcases akx.1 hd with rfl|hd
  ·exact hc
  exact h2 d hd
theorem ab6 (s:B)(o:Nat)(h:s[o]? =some 10)(hn:∀c∈s.take o,c≠10):gW s=s.take o::gW (s.drop (o+1)):=by have:=ZR s 0 o h (by omega) (by simpa using hn);simpa using this
theorem EH (s:B):(gW s).length<=s.length+1:=by
 induction s with
 |nil=>simp[gW]
 |cons c r ih=>
  rw[gW];split
  ·simp;omega
  split<;>rename_i h<;>rw[h] at ih<;>simp at ih ⊢;omega
theorem RoundIn.deep {P:Program}{l m k:Nat}{f:FuncId}{tmps:Array Value}{assign body:Code}{w:World}{R:Ending->World->Prop}(h:RoundIn Fence.wide m P l f tmps assign body w R):RoundIn Fence.wide k P l f tmps assign body w R:=⟨h.1,fun c cs _=>h.2 c cs (fun _ hd=>by cases hd)⟩
def strLen (W:World)(b:Nat):Nat:=match W.cell? ⟨b,0,none⟩ with|some (.string s)=>s.size|_=>0
theorem Hf {W:World}{b:Nat}{s:B}(h:Bk W b 9 #[.string ⟨s.toArray⟩]):strLen W b=s.length:=by have:W.cell? ⟨b,0,none⟩=some (.string ⟨s.toArray⟩):=h.cell 0;simp[strLen,this];rfl
abbrev Ln:= {x:B // x.length<=800000000}
def Jq (x:Ln):Array Value:= #[.string ⟨x.1.toArray⟩]
def QL (h:Nat)(b:Nat):Prop:=b=h\/b=h+1\/b=h+1+1
theorem Ec {T:Nat->Prop}{W W':World}(h:aiu T W W'){b:Nat}(hb:T b){t:TypeId}{cs:Array Value}(hk:Bk W b t cs):Bk W' b t cs:=h b hb _ hk rfl
theorem Ua (w:World)(h:Nat)(s:B)(hs:s.length<=800000000)(h1:Bk w h 9 #[.string ⟨s.toArray⟩])(h2:Bk w (h+1) 9 #[.string ⟨#[10]⟩])(h3:Bk w (h+1+1) 3 #[.int .i64 0]):
  TJ Tryz.prog h 160 #[.pointer (some ⟨h+1,0,none⟩),.pointer (some ⟨h,0,none⟩),.pointer (some ⟨h+1+1,0,none⟩)] Jq (aiu (QL h)) (fun xs _=>xs.map (·.1)=gW s) (fun xs=>xs.map (·.1)<+:gW s) (s.length+1) w:=by
 intro l n J Bx W hn hl hW hJ hJc hY h0;have b1:Bk W h 9 _:=(hW.block _ h1.lt).trans h1;have b2:Bk W (h+1) 9 _:=(hW.block _ h2.lt).trans h2;have b3:Bk W (h+1+1) 3 _:=(hW.block _ h3.lt).trans h3;have k2:W.cell? ⟨h+1,0,none⟩=some (.string ⟨#[10]⟩):=b2.cell 0;have HY:=hd0 hY;have HJc:=hd0 hJc;clear h1 h2 h3 hJ hY hJc;refine callsIn_of_wp Tryz.func160 rfl trivial ?_ rfl;simp only[Tryz.ntmps160,List.size_toArray,aF,ln,Nat.reduceAdd,Nat.reduceSub,Array.replicate_succ,Array.replicate_zero,List.push_toArray,List.append_toArray,akX,akC]
 gi_wp2
 gi_loopw [7] (fun _ wr=>∃(rest:B) (pre:List Ln),J pre wr/\Bk wr h 9 #[.string ⟨rest.toArray⟩]/\Bk wr (h+1) 9 #[.string ⟨#[10]⟩]/\Bk wr (h+1+1) 3 #[.int .i64 0]/\Hid (pre.map (·.1)++gW rest=gW s)/\rest.length<=s.length) (fun _ wr=>strLen wr h)
 case atStart=>exact⟨s,[],h0,b1,b2,b3,rfl,nr _⟩
 case round=>
  obtain⟨rest,pre,hJs,b1,b2,b3,hpre,hrl⟩:=hrel;have k1:wr.cell? ⟨h,0,none⟩=some (.string ⟨rest.toArray⟩):=b1.cell 0;have k2:wr.cell? ⟨h+1,0,none⟩=some (.string ⟨#[10]⟩):=b2.cell 0;have k3:wr.cell? ⟨h+1+1,0,none⟩=some (.int .i64 0):=b3.cell 0;rcases Zy rest with hno|⟨o,ho,hno⟩
  ·have hlast:Hid ((pre++[(⟨rest,by omega⟩:Ln)]).map (·.1)=gW s):=by
    have:=hpre.out;rw[Vt rest hno] at this;show _=_;simpa using this
   have hidx:=hd0 (TV wr rest hno);have hlenp:pre.length<s.length+1:=by have h1:=congrArg List.length hlast.out;have h2:=EH s;simp at h1;omega
   obtain⟨fn,tmps,assign,body,hy,hR⟩:=HY.out pre ⟨rest,by omega⟩ wr hJs hlenp;simp only[Jq] at hy;clear hno hJs
   gi_wp2_with fail
   refine⟨trivial,fun _=>by omega,?_⟩;refine(callsIn_wide.2 hidx.out).mono ?_;rintro e w' ⟨rfl,rfl⟩
   gi_wp2_with fail
   refine⟨fun h=>(by cases h),?_⟩;refine(RoundIn.deep hR).mono ?_;rintro e W3 (⟨rfl,hJ3,IP,hK3⟩|⟨rfl,hB3,hs3,hK3⟩)
   ·clear hK3
    gi_wp2_with fail
    go_end0
    exact⟨⟨_,rfl⟩,.inl ⟨_,hlast.out,hJ3⟩⟩
   clear hK3
   gi_wp2_with fail
   go_end0
   exact⟨⟨_,rfl⟩,.inr ⟨_,⟨[],by rw[akR];exact hlast.out⟩,hB3⟩⟩
  have hnext:Hid ((pre++[(⟨rest.take o,by simp;omega⟩:Ln)]).map (·.1)++gW (rest.drop (o+1))=gW s):=by have:=hpre.out;rw[ab6 rest o ho hno] at this;show _=_;simpa using this
  have hlt:o<rest.length:=(akn.1 ho).1;have hidx:=hd0 (SE wr rest o ho hno);have hlenp:pre.length<s.length+1:=by have h1:=congrArg List.length hnext.out;have h2:=EH s;simp at h1;omega
  obtain⟨fn,tmps,assign,body,hy,hR⟩:=HY.out pre ⟨rest.take o,by simp;omega⟩ wr hJs hlenp;simp only[Jq] at hy;have ahE:(ByteArray.mk rest.toArray).extract 0 o=⟨(rest.take o).toArray⟩:=by rw[jE,List.drop_zero]
  have aeP:(ByteArray.mk rest.toArray).extract (o+1) rest.length=⟨(rest.drop (o+1)).toArray⟩:=by rw[jE,akr]
  have hz:decide ((o:Int)<0)=false:=by simp
  clear ho hno hJs
  gi_wp2_with fail
  refine⟨trivial,fun _=>by omega,?_⟩;refine(callsIn_wide.2 hidx.out).mono ?_;rintro e w' ⟨rfl,rfl⟩
  gi_wp2_with fail
  refine⟨fun h=>(by cases h),?_⟩;refine(RoundIn.deep hR).mono ?_;rintro e W3 (⟨rfl,hJ3,IP,hK3⟩|⟨rfl,hB3,hs3,hK3⟩)
  ·have c1:=Ec IP (.inl rfl) b1;have c2:=Ec IP (.inr (.inl rfl)) b2;have c3:=Ec IP (.inr (.inr rfl)) b3;have q1:W3.cell? ⟨h,0,none⟩=some (.string ⟨rest.toArray⟩):=c1.cell 0;have q2:W3.cell? ⟨h+1,0,none⟩=some (.string ⟨#[10]⟩):=c2.cell 0;have q3:W3.frozen? ⟨h,0,none⟩=false:=c1.frozen 0;have hm:Hid (strLen wr h=rest.length):=Hf b1;have hd:Bk (W3.setCell ⟨h,0,none⟩ (.string ⟨(rest.drop (o+1)).toArray⟩)) h 9 #[.string ⟨(rest.drop (o+1)).toArray⟩]:=c1.set 0 _;clear hK3
   gi_wp2_with fail
   go_roundw
   case rel=>exact⟨rest.drop (o+1),_,HJc.out _ _ _ hJ3,hd,c2.far (by simp) _,c3.far (by simp;omega) _,hnext,by simp;omega⟩
   case measure=>rw[Hf hd,hm.out,ak0];omega
  clear hK3
  gi_wp2_with fail
  refine bodyPost_ret (results_none rfl _ _ _) rfl ?_;exact⟨⟨_,rfl⟩,.inr ⟨_,⟨_,hnext.out⟩,hB3⟩⟩
end
section
open Go.RowKit
attribute [-go_sem] Builtin.append_
theorem Y6:(Tryz.prog.info? 124).map (fun i=>(i.zero,i.size,i.bytes))=some (some (.agg #[.int .i64 0,.int .i64 0,.string ⟨#[]⟩]),3,32):=by kernel_rfl
def aiN (h:Nat)(s:B)(n:Nat)(f:Int)(ws:List P3)(W:World):Prop:=
 Bk W h 9 #[.string ⟨s.toArray⟩]/\Bk W (h+1) 3 #[.int .i64 n]/\Bk W (h+1+1+1) 3 #[.int .i64 f]/\
  ∃A c,Bk W (h+1+1) 119 #[.slice A ws.length c]/\W.ownsRow (h+1+1+1+1) 124 3 (.slice A ws.length c) ws.length (dA ws)
def xm (h:Nat)(s:B)(n:Nat)(ws:List P3)(W:World)(e:Ending)(W':World):Prop:=e= .returned (.tuple #[])/\aiN h s n (-1) ws W'/\Below h W W'/\KeepsOthers W W'
theorem Zi (W:World)(h:Nat)(s:B)(n t:Nat)(ws:List P3)(hb:aiN h s n (-1) ws W):
  Calls Tryz.prog 120 #[.int .i64 t,.pointer (some ⟨h+1+1+1,0,none⟩),.pointer (some ⟨h+1+1,0,none⟩),.pointer (some ⟨h+1,0,none⟩),.pointer (some ⟨h,0,none⟩)] W (xm h s n ws W):=by
 obtain⟨h1,h2,h3,A,c,h4,h5⟩:=hb;have c3:W.cell? ⟨h+1+1+1,0,none⟩=some (.int .i64 (-1)):=h3.cell 0;have f3:=h3.frozen 0;have Hp:Hid (xm h s n ws W (.returned (.tuple #[])) (W.setCell ⟨h+1+1+1,0,none⟩ (.int .i64 (-1)))):=by refine⟨rfl,⟨h1.far (by simp;omega) _,h2.far (by simp) _,h3.set 0 _,A,c,h4.far (by simp) _,?_⟩,(akl _ _).setCell (by simp;omega) _,KeepsOthers.setCell _ _ _⟩;exact ownsRow_setCell_below h5 (by simp) _
 clear h1 h2 h4 h5;go_enter Tryz.func120,Tryz.ntmps120
 go_wp2
 go_end0
 exact Hp.out
theorem Xk (W:World)(h:Nat)(s:B)(n f t:Nat)(ws:List P3)(hb:aiN h s n f ws W)(hft:f<=t)(hts:t<=s.length)(hs:s.length<=800000000)(hw:ws.length<=800000000):
  Calls Tryz.prog 120 #[.int .i64 t,.pointer (some ⟨h+1+1+1,0,none⟩),.pointer (some ⟨h+1+1,0,none⟩),.pointer (some ⟨h+1,0,none⟩),.pointer (some ⟨h,0,none⟩)] W (xm h s n (ws++[((n:Int),(f:Int),(s.take t).drop f)]) W):=by
 obtain⟨i0,hi0,hz0,hz1,hz2⟩:=info_parts Y6;obtain⟨h1,h2,h3,A,c,h4,h5⟩:=hb;have k1:W.cell? ⟨h,0,none⟩=some (.string ⟨s.toArray⟩):=h1.cell 0;have k2:W.cell? ⟨h+1,0,none⟩=some (.int .i64 n):=h2.cell 0;have k3:W.cell? ⟨h+1+1+1,0,none⟩=some (.int .i64 f):=h3.cell 0;have k4:W.cell? ⟨h+1+1,0,none⟩=some (.slice A ws.length c):=h4.cell 0;have f3:=h3.frozen 0;have f4:=h4.frozen 0;have zl:=h3.lt;have hex:(ByteArray.mk s.toArray).extract f t=⟨((s.take t).drop f).toArray⟩:=jE s f t;obtain⟨T,hT⟩:∃T,(s.take t).drop f=T:=⟨_,rfl⟩
 rw[hT] at hex ⊢;clear hT;have hlow:Hid (∀k,k<h+1+1+1+1->some k≠(Value.slice A ws.length c).ownBlock):=fun k hk e=>by have:=(h5.lt k e.symm).1;omega
 have Hp:Hid (∀(v1:Value) (w1:World),w1.ownsRow (h+1+1+1+1) 124 3 v1 (ws.length+1) (dA ws++[.int .i64 n,.int .i64 f,.string ⟨T.toArray⟩])->(W.alloc (.cells #[.int .i64 n,.int .i64 f,.string ⟨T.toArray⟩] 124)).drew.grownBy w1 (Value.slice A ws.length c).ownBlock->
   xm h s n (ws++[((n:Int),(f:Int),T)]) W (.returned (.tuple #[])) ((w1.setCell ⟨h+1+1,0,none⟩ v1).setCell ⟨h+1+1+1,0,none⟩ (.int .i64 (-1)))):=by
  intro v1 w1 hown hg;obtain⟨A1,c1,rfl,-⟩:=Rd.ail hown;have yC:∀k,k<h+1+1+1+1->w1.heap[k]? =W.heap[k]? :=fun k hk=>(hg.block k (by simp;omega) (hlow.out k hk)).trans (Below.heap_alloc _ _ _ (by omega))
  have b1:Bk w1 h 9 _:=(yC _ (by omega)).trans h1;have b2:Bk w1 (h+1) 3 _:=(yC _ (by omega)).trans h2;have b3:Bk w1 (h+1+1+1) 3 _:=(yC _ (by omega)).trans h3;have b4:Bk w1 (h+1+1) 119 _:=(yC _ (by omega)).trans h4;refine⟨rfl,⟨(b1.far (by simp;omega) _).far (by simp;omega) _,(b2.far (by simp) _).far (by simp) _,(b3.far (by simp) _).set 0 _,A1,c1,?_,?_⟩,?_,?_⟩
  ·have:=(b4.set 0 (.slice A1 (ws.length+1) c1)).far (p:=⟨h+1+1+1,0,none⟩) (by simp) (.int .i64 (-1));simpa using this
  ·have:=ownsRow_setCell_below (ownsRow_setCell_below hown (a:=⟨h+1+1,0,none⟩) (by simp) (.slice A1 (ws.length+1) c1)) (a:=⟨h+1+1+1,0,none⟩) (by simp) (.int .i64 (-1));rw[xY];simpa [dA,c3] using this
  ·exact((((akl h W).alloc (by omega) _).drew.grown hg (by simp;omega) (fun g hg'=>by have:=(h5.lt g hg').1;omega)).setCell (by simp;omega) _).setCell (by simp;omega) _
  have ka:KeepsOthers W (W.alloc (.cells #[.int .i64 n,.int .i64 f,.string ⟨T.toArray⟩] 124)).drew:=⟨(KeepsOthers.alloc W _).size,(KeepsOthers.alloc W _).same⟩
  refine KeepsOthers.trans (KeepsOthers.trans (KeepsOthers.trans ka (KeepsOthers.of_grownBy hg (fun j o hj ho=> ?_))) (KeepsOthers.setCell _ _ _)) (KeepsOthers.setCell _ _ _);obtain⟨cur,hk⟩:=oO (h5.alloc (.cells #[.int .i64 n,.int .i64 f,.string ⟨T.toArray⟩] 124)) j hj;have hk2:(W.alloc (.cells #[.int .i64 n,.int .i64 f,.string ⟨T.toArray⟩] 124)).drew.heap[j]? =_:=hk;rw[hk2] at ho;cases ho;rfl
 obtain⟨v1,w1,hrun,hown1,hg1,-⟩:=oC (P:=Tryz.prog) ((W.alloc (.cells #[.int .i64 n,.int .i64 f,.string ⟨T.toArray⟩] 124)).drew) (h+1+1+1+1) 119 119 124 i0 _ 3 32 Tryz.underlying119 hi0 hz0 hz1 hz2 rfl (by decide) (.slice A ws.length c) ws.length (dA ws) (h5.alloc _).drew (W.heap.size+1) (some ⟨W.heap.size,0,none⟩) 1 1 [.int .i64 n,.int .i64 f,.string ⟨T.toArray⟩] (Rd.drew (Rd.newAt _ _ (by simp) #[.int .i64 n,.int .i64 f,.string ⟨T.toArray⟩] 124 1 3 rfl)) (by simp[Value.oneCell']) (by simp only[maxLen];omega) (by omega) (by simp;omega);obtain⟨A1,c1,rfl,-⟩:=Rd.ail hown1;have Hp2:=hd0 (Hp.out _ _ hown1 hg1);have b4:Bk w1 (h+1+1) 119 #[.slice A ws.length c]:=(hg1.block (h+1+1) (by simp;omega) (hlow.out _ (by omega))).trans (h4.alloc _);have x4:w1.cell? ⟨h+1+1,0,none⟩=some (.slice A ws.length c):=b4.cell 0;have y4:w1.frozen? ⟨h+1+1,0,none⟩=false:=b4.frozen 0;have b3:Bk w1 (h+1+1+1) 3 #[.int .i64 f]:=(hg1.block (h+1+1+1) (by simp;omega) (hlow.out _ (by omega))).trans (h3.alloc _);have x3:w1.cell? ⟨h+1+1+1,0,none⟩=some (.int .i64 f):=b3.cell 0;have y3:w1.frozen? ⟨h+1+1+1,0,none⟩=false:=b3.frozen 0;have q4:(W.alloc (.cells #[.int .i64 n,.int .i64 f,.string ⟨T.toArray⟩] 124)).cell? ⟨h+1+1,0,none⟩=some (.slice A ws.length c):=(h4.alloc _).cell 0;clear hown1 hg1 b3 b4 h1 h2 h3 h4 h5 hlow Hp hi0 hz0 hz1 hz2;go_enter Tryz.func120,Tryz.ntmps120
 go_wp2_with fail
 go_region
 all_goals
  go_wp2
  go_end0
  exact Hp2.out
end
section
open Go.RowKit
def strs (ws:List B):List Value:=ws.map fun s=> .string ⟨s.toArray⟩
theorem yE (a b:List B):strs (a++b)=strs a++strs b:=by simp[strs]
theorem uJ (a:List B):(strs a).length=a.length:=by simp[strs]
theorem DF (ws:List B):∀u∈strs ws,u.oneCell'=true:=by intro u hu;simp only[strs,akQ] at hu;obtain⟨p,_,rfl⟩:=hu;rfl
theorem Oe (w:World)(S:Bs)(ws:List B):Fl ai4 1 w S (strs ws) ws:=
 ⟨by simp[strs],fun k x hx=>⟨[.string ⟨x.toArray⟩],rfl,rfl,fun j u hu=>by
  cases j with
  |zero=>simp at hu;subst hu;simp[strs,hx]
  |succ j=>simp at hu⟩⟩
def aiD (w:World)(g:Nat)(cs:List Value):Prop:=∃t fz,w.heap[g]? =some (.cells cs.toArray t fz)
theorem aiD.cell {w:World}{g:Nat}{cs:List Value}(h:aiD w g cs)(i:Nat):w.cell? ⟨g,i,none⟩=cs[i]? :=by obtain⟨t,fz,h⟩:=h;simp[World.cell?,h]
theorem aiD.lt {w:World}{g:Nat}{cs:List Value}(h:aiD w g cs):g<w.heap.size:=by obtain⟨t,fz,h⟩:=h;exact(akp.1 h).1
theorem aiD.below {w w':World}{g Bd:Nat}{cs:List Value}(h:aiD w g cs)(hb:Below Bd w w')(hg:g<Bd):aiD w' g cs:=by obtain⟨t,fz,h⟩:=h;exact⟨t,fz,(hb.block g hg).trans h⟩
theorem strs_get {l:List B}{i:Nat}{s:B}(h:l[i]? =some s):(strs l)[i]? =some (.string ⟨s.toArray⟩):=by simp[strs,h]
structure RV where
 v:Value
 n:Nat
 xs:List Value
def RV.nil:RV:=⟨.slice none 0 0,0,[]⟩
def kT:Nat->TypeId
 |0=>59
 |1=>93
 |2=>72
 |3=>97
 |4=>99
 |5=>104
 |6=>57
 |7=>3
 |8=>139
 |9=>3
 |10=>87
 |11=>89
 |12=>91
 |13=>61
 |_=>76
def kS:Nat->Nat
 |0=>9
 |1=>2
 |2=>3
 |3=>2
 |4=>4
 |5=>1
 |6=>1
 |7=>1
 |8=>3
 |9=>1
 |10=>3
 |11=>4
 |12=>4
 |13=>2
 |_=>6
def lJ (t:TypeId):Bool:=[59,93,72,97,99,104,57,3,139,87,89,91,61,76,101,95,22].contains t
theorem um (j:Nat):lJ (kT j)=true:=by unfold kT;split<;>decide
theorem UC (j:Nat):0<kS j:=by unfold kS;split<;>decide
abbrev Rows:=Nat->RV
def upd (rv:Rows)(i:Nat)(r:RV):Rows:=fun j=>if j=i then r else rv j
theorem upd_same (rv:Rows)(i:Nat)(r:RV):upd rv i r i=r:=by simp[upd]
theorem iY (rv:Rows){i j:Nat}(r:RV)(h:j≠i):upd rv i r j=rv j:=by simp[upd,h]
structure Live (w:World)(Bd:Nat)(rv:Rows):Prop where
 own:∀j,j<15->w.ownsRow Bd (kT j) (kS j) (rv j).v (rv j).n (rv j).xs
 apart:∀i j,i<15->j<15->i≠j->∀g,(rv i).v.ownBlock=some g->(rv j).v.ownBlock≠some g
def Fz (w:World)(rv:Rows):Bs:=fun b=>∃cs t,Bk w b t cs/\lJ t=true/\∀j,j<15->(rv j).v.ownBlock≠some b
structure Tr (w:World)(rv:Rows)(w':World)(rv':Rows):Prop where
 same:Same (Fz w rv) w w'
 sub:∀b,Fz w rv b->Fz w' rv' b
theorem Tr.refl (w:World)(rv:Rows):Tr w rv w rv:=⟨Same.refl _ _,fun _ h=>h⟩
theorem Tr.trans {a b c:World}{x y z:Rows}(h:Tr a x b y)(k:Tr b y c z):Tr a x c z:=⟨fun g hg=>(k.same g (h.sub g hg)).trans (h.same g hg),fun g hg=>k.sub g (h.sub g hg)⟩
theorem Tr.rel {α:Type}{R:Rel α}(ok:R.Ok){w w':World}{rv rv':Rows}{cs:List Value}{x:α}(h:Tr w rv w' rv')(k:R w (Fz w rv) cs x):R w' (Fz w' rv') cs x:=ok.mono (ok.keep k h.same) h.sub
theorem Tr.sl {α:Type}{R:Rel α}(ok:R.Ok){size:Nat}{w w':World}{rv rv':Rows}{A:Option Addr}{xs:List α}(h:Tr w rv w' rv')(k:Sl R size w (Fz w rv) A xs):Sl R size w' (Fz w' rv') A xs:=(k.keep ok h.same).mono ok h.sub
theorem Tr.fl {α:Type}{R:Rel α}(ok:R.Ok){size:Nat}{w w':World}{rv rv':Rows}{cs:List Value}{xs:List α}(h:Tr w rv w' rv')(k:Fl R size w (Fz w rv) cs xs):Fl R size w' (Fz w' rv') cs xs:=(k.keep ok h.same).mono ok h.sub
theorem aV {w:World}{base:Nat}{e:TypeId}{size:Nat}{v:Value}{n:Nat}{xs:List Value}(h:w.ownsRow base e size v n xs){g:Nat}(hg:v.ownBlock=some g):∃cur,Bk w g e cur:=oO h g hg
theorem dR {w:World}{g:Nat}{t t':TypeId}{cs cs':Array Value}(h:Bk w g t cs)(k:Bk w g t' cs'):t=t'/\cs=cs':=by
 unfold Bk at h k;rw[h] at k;injection k with k
 injection k with k1 k2
 exact⟨k2,k1⟩
theorem Live.keep {w w':World}{Bd:Nat}{rv:Rows}(h:Live w Bd rv)(hk:∀j,j<15->∀g,(rv j).v.ownBlock=some g->w'.heap[g]? =w.heap[g]?):Live w' Bd rv:=
 ⟨fun j hj=>by
  obtain⟨h1,h2⟩:=h.own j hj;refine⟨h1,?_⟩;rcases h2 with h2|⟨g,cap,cur,e,hb,hg,rest⟩
  ·exact .inl h2
  exact .inr ⟨g,cap,cur,e,hb,(hk j hj g (by rw[e];rfl)).trans hg,rest⟩,h.apart⟩
theorem Live.below {w w':World}{Bd:Nat}{rv:Rows}(h:Live w Bd rv)(hb:Below w.heap.size w w'):Live w' Bd rv:=h.keep fun j hj g hg=>hb.block g ((h.own j hj).lt g hg).2
theorem Tr.below {w w':World}{rv:Rows}(hb:Below w.heap.size w w'):Tr w rv w' rv:=⟨fun b ⟨cs,t,h1,_⟩=>hb.block b h1.lt,fun b ⟨cs,t,h1,h2,h3⟩=>⟨cs,t,(hb.block b h1.lt).trans h1,h2,h3⟩⟩
theorem Live.other {w w':World}{Bd:Nat}{rv:Rows}(h:Live w Bd rv){row:Option Nat}(hg:w.grownBy w' row)(hr:∀g,row=some g->∀t cs,Bk w g t cs->lJ t=false):Live w' Bd rv:=
 h.keep fun j hj g hgj=>hg.block g ((h.own j hj).lt g hgj).2 (fun e=>by
  obtain⟨cur,hb⟩:=aV (h.own j hj) hgj;have:=hr g e.symm _ _ hb;rw[um] at this;cases this)
theorem Tr.other {w w':World}{rv:Rows}{row:Option Nat}(hg:w.grownBy w' row)(hr:∀g,row=some g->∀t cs,Bk w g t cs->lJ t=false):Tr w rv w' rv:=by
 have key:∀b,Fz w rv b->w'.heap[b]? =w.heap[b]? :=fun b ⟨cs,t,h1,h2,_⟩=>hg.block b h1.lt (fun e=>by
  have:=hr b e.symm _ _ h1;rw[h2] at this;cases this)
 exact⟨key,fun b hb=>by
  obtain⟨cs,t,h1,h2,h3⟩:=hb;exact⟨cs,t,(key b ⟨cs,t,h1,h2,h3⟩).trans h1,h2,h3⟩⟩
theorem Live.row {w w':World}{Bd:Nat}{rv:Rows}(h:Live w Bd rv){i:Nat}(hi:i<15){r:RV}(hg:w.grownBy w' (rv i).v.ownBlock)(ho:w'.ownsRow Bd (kT i) (kS i) r.v r.n r.xs)
  (hl:r.v.ownBlock=(rv i).v.ownBlock\/∀g,r.v.ownBlock=some g->w.heap.size<=g):Live w' Bd (upd rv i r):=by
 have hne:∀j,j<15->j≠i->(rv j).v.ownBlock=none\/(rv j).v.ownBlock≠(rv i).v.ownBlock:=fun j hj hji=>by
  cases hb:(rv j).v.ownBlock with
  |none=>exact .inl rfl
  |some g=>exact .inr (fun e=>h.apart j i hj hi hji g hb e.symm)
 have hnew:∀j,j<15->j≠i->∀g,(rv j).v.ownBlock=some g->r.v.ownBlock≠some g:=fun j hj hji g hb e=>by
  rcases hl with hl|hl
  ·rw[hl] at e;exact h.apart j i hj hi hji g hb e
  have:=hl g e;have:=((h.own j hj).lt g hb).2;omega
 refine⟨fun j hj=> ?_,fun a b ha hb hab g=> ?_⟩
 ·by_cases hji:j=i
  ·subst hji;rw[upd_same];exact ho
  rw[iY _ _ hji];exact(h.own j hj).kept hg (hne j hj hji)
 by_cases hai:a=i
 ·subst hai;rw[upd_same,iY _ _ (Ne.symm hab)];intro e1 e2;exact hnew b hb (Ne.symm hab) g e2 e1
 rw[iY _ _ hai];by_cases hbi:b=i
 ·subst hbi;rw[upd_same];exact hnew a ha hai g
 rw[iY _ _ hbi];exact h.apart a b ha hb hab g
theorem Tr.row {w w':World}{rv:Rows}{i:Nat}(hi:i<15){r:RV}(hg:w.grownBy w' (rv i).v.ownBlock)(hl:r.v.ownBlock=(rv i).v.ownBlock\/∀g,r.v.ownBlock=some g->w.heap.size<=g):Tr w rv w' (upd rv i r):=by
 have key:∀b,Fz w rv b->w'.heap[b]? =w.heap[b]? :=fun b ⟨cs,t,h1,h2,h3⟩=>hg.block b h1.lt (fun e=>h3 i hi e.symm)
 refine⟨key,fun b hb=> ?_⟩;obtain⟨cs,t,h1,h2,h3⟩:=hb;refine⟨cs,t,(key b ⟨cs,t,h1,h2,h3⟩).trans h1,h2,fun j hj=> ?_⟩;by_cases hji:j=i
 ·subst hji;rw[upd_same];rcases hl with hl|hl
  ·rw[hl];exact h3 j hi
  intro e;have:=hl b e;have:=h1.lt;omega
 rw[iY _ _ hji];exact h3 j hj
theorem Live.drop {w:World}{Bd:Nat}{rv:Rows}(h:Live w Bd rv)(i:Nat):Live w Bd (upd rv i RV.nil):=by
 refine⟨fun j hj=> ?_,fun a b ha hb hab g=> ?_⟩
 ·by_cases hji:j=i
  ·subst hji;rw[upd_same];exact World.ownsRow_nil w Bd _ _
  rw[iY _ _ hji];exact h.own j hj
 by_cases hai:a=i
 ·subst hai;rw[upd_same];intro e;cases e
 rw[iY _ _ hai];by_cases hbi:b=i
 ·subst hbi;rw[upd_same];intro _ e;cases e
 rw[iY _ _ hbi];exact h.apart a b ha hb hab g
theorem Tr.drop (w:World)(rv:Rows)(i:Nat):Tr w rv w (upd rv i RV.nil):=
 ⟨Same.refl _ _,fun b ⟨cs,t,h1,h2,h3⟩=>⟨cs,t,h1,h2,fun j hj=>by
  by_cases hji:j=i
  ·subst hji;rw[upd_same];intro e;cases e
  rw[iY _ _ hji];exact h3 j hj⟩⟩
theorem Sl.aiC {α:Type}{R:Rel α}{size:Nat}{w:World}{S:Bs}{cells:List Value}{xs:List α}{A:Option Addr}{base n c:Nat}{e:TypeId}(h:w.ownsRow base e size (.slice A n c) n cells)(hf:Fl R size w S cells xs)(hS:∀g,(Value.slice A n c).ownBlock=some g->S g)(hsz:0<size):Sl R size w S A xs:=by
 refine⟨cells,hf,fun h0=> ?_⟩;rcases h.2 with⟨h1,h2⟩|⟨g,cap,cur,h1,hb,hh,hn,-⟩
 ·have h3:=h.1;have h4:=hf.1;subst h2;simp only[Nat.zero_mul,List.length_eq_zero_iff] at h3;subst h3;have:=Nat.mul_pos h0 hsz;rw[<-h4] at this;simp at this
 simp only[alh,true_and] at h1;obtain⟨rfl,rfl⟩:=h1;refine⟨g,0,rfl,hS g rfl,fun j u hu=> ?_⟩;have:=h.cells (g:=g) rfl j u hu
 rwa [addr_add] at this
theorem Live.ajS {w:World}{Bd:Nat}{rv:Rows}(h:Live w Bd rv){i:Nat}(hi:i<15):∀g,(rv i).v.ownBlock=some g->Fz w (upd rv i RV.nil) g:=by
 intro g hg;obtain⟨cur,hb⟩:=aV (h.own i hi) hg;refine⟨cur,kT i,hb,um i,fun j hj=> ?_⟩;by_cases hji:j=i
 ·subst hji;rw[upd_same];intro e;cases e
 rw[iY _ _ hji];exact h.apart i j hi hj (Ne.symm hji) g hg
theorem rG {w:World}{base:Nat}{e:TypeId}{size n c g:Nat}{xs:List Value}(h:w.ownsRow base e size (.slice (some ⟨g,0,none⟩) n c) n xs)(i:Nat)(u:Value):
  (w.setCell ⟨g,i,none⟩ u).ownsRow base e size (.slice (some ⟨g,0,none⟩) n c) n (xs.set i u):=by
 refine⟨by simpa using h.1,?_⟩;rcases h.2 with⟨h1,h2⟩|⟨g',cap,cur,h1,hb,hh,hn,hm,hs,ht⟩
 ·cases h1
 simp only[alh,akM,Addr.mk.injEq,and_true,true_and] at h1;obtain⟨rfl,rfl⟩:=h1;refine .inr ⟨g,c,cur.setIfInBounds i u,rfl,hb,Bk.set hh i u,hn,hm,by simpa using hs,?_⟩;rw[Array.toList_setIfInBounds,List.take_set,ht]
theorem dC (w:World)(p:Addr)(u:Value):w.grownBy (w.setCell p u) (some p.block):=⟨rfl,rfl,rfl,by simp[World.setCell],fun k _ hne=>Below.heap_setCell w p u k (fun e=>hne (by rw[e]))⟩
theorem gX {w:World}{base:Nat}{e:TypeId}{size:Nat}{v:Value}{n:Nat}{xs:List Value}(h:w.ownsRow base e size v n xs):∃A c,v= .slice A n c:=by
 rcases h.2 with⟨rfl,rfl⟩|⟨g,cap,cur,rfl,_⟩
 ·exact⟨none,0,rfl⟩
 exact⟨_,_,rfl⟩
theorem YX (w:World)(s:B)(hs:s.length<=800000000):Calls Tryz.prog 169 #[.string ⟨s.toArray⟩,.string ⟨#[45]⟩] w fun e w'=>e= .returned (.tuple #[.string ⟨(gu s).toArray⟩,.bool (signed s)])/\w=w':=by
 cases s with
 |nil=>
  go_enter Tryz.func169,Tryz.ntmps169
  go_wp2
  go_ret2
  exact⟨rfl,rfl⟩
 |cons c r=>
  have hex:(ByteArray.mk (c::r).toArray).extract 0 1=⟨[c].toArray⟩:=by rw[jE];simp
  have aeP:(ByteArray.mk (c::r).toArray).extract 1 (r.length+1)=⟨r.toArray⟩:=by rw[jE];simp
  by_cases hc:c=45
  ·subst hc;go_enter Tryz.func169,Tryz.ntmps169
   go_wp2
   go_ret2
   exact⟨rfl,rfl⟩
  have hne:(c==45)=false:=by simpa using hc
  have hu:gu (c::r)=c::r/\signed (c::r)=false:=by
   rcases uB (c::r) with⟨r',h,_⟩|⟨h1,h2,_⟩
   ·injection h with h _
    exact absurd h hc
   exact⟨h1,h2⟩
  have Hu:=hd0 hu;clear hu hc;go_enter Tryz.func169,Tryz.ntmps169
  go_wp2
  go_ret2
  rw[Hu.out.1,Hu.out.2];exact⟨rfl,rfl⟩
theorem RS (s:B):(gu s).length<=s.length:=by
 rcases uB s with⟨r,h1,h2,-⟩|⟨h,-⟩
 ·rw[h2,h1];simp
 rw[h];exact nr _
theorem Ep (d:B)(k:Nat)(hk:k<=9)(h:∀j c,j<k->d[j]? =some c->gp c=true):mF (d.take k)<1000000000:=by
 have h1:=OT (d.take k) (fun c hc=>by
  obtain⟨i,hi⟩:=akG.1 hc;rw[akP] at hi;split at hi
  ·exact h i c ‹_› hi
  cases hi)
 have h2:10 ^ (d.take k).length<=10 ^ 9:=Nat.pow_le_pow_right (by omega) (by rw[akH];omega);exact aku h1 h2
theorem Nb (d:B)(k:Nat)(c:UInt8)(hc:d[k]? =some c)(hd:gp c=true)(h:∀j c,j<k->d[j]? =some c->gp c=true):∀j c,j<k+1->d[j]? =some c->gp c=true:=by
 intro j e hj he;by_cases hjk:j=k
 ·subst hjk;rw[hc] at he;cases he;exact hd
 exact h j e (by omega) he
theorem Ui (d:B)(k:Nat)(c:UInt8)(hc:d[k]? =some c):mF (d.take (k+1))=10*mF (d.take k)+(c.toNat - 48):=by obtain⟨hk,hg⟩:=akn.1 hc;rw[akB hk,hg,vO]
theorem Qb (d:B)(h:∀j c,j<d.length->d[j]? =some c->gp c=true):∀c∈d,gp c=true:=by intro c hc;obtain⟨i,hi⟩:=akG.1 hc;exact h i c (akn.1 hi).1 hi
def BM (s:B)(w:World)(e:Ending)(w':World):Prop:=e= .returned (.tuple #[.int .i64 (aA s),.bool (uf s)])/\Below w.heap.size w w'
theorem Qa (w:World)(s:B)(hs:s.length<=800000000):Calls Tryz.prog 163 #[.string ⟨s.toArray⟩] w (BM s w):=by
 have hu:=RS s;have hcut:=YX w s hs;have hpost:Hid (∀w',(rM (gu s)=false->Below w.heap.size w w'->BM s w (.returned (.tuple #[.int .i64 0,.bool false])) w')/\
   (rM (gu s)=true->signed s=true->Below w.heap.size w w'->BM s w (.returned (.tuple #[.int .i64 (-(mF (gu s):Int)),.bool true])) w')/\
   (rM (gu s)=true->signed s=false->Below w.heap.size w w'->BM s w (.returned (.tuple #[.int .i64 (mF (gu s):Int),.bool true])) w')):=by
  intro w';refine⟨fun h hb=>⟨?_,hb⟩,fun h h2 hb=>⟨?_,hb⟩,fun h h2 hb=>⟨?_,hb⟩⟩
  ·simp[aA,uf,h]
  ·simp[aA,uf,h,h2]
  simp[aA,uf,h,h2]
 generalize gu s=d at*
 generalize signed s=sg at*
 have abd:=hd0 hcut;clear hcut;by_cases hl:d.length<1\/9<d.length
 ·have hno:=hd0 (XL d hl);go_enter Tryz.func163,Tryz.ntmps163
  go_wp2_with fail
  refine abd.out.mono ?_;rintro e w' ⟨rfl,rfl⟩;rcases hl with hl|hl
  ·go_wp2
   go_ret2
   exact(hpost.out _).1 hno.out (akl _ _)
  go_wp2
  go_ret2
  exact(hpost.out _).1 hno.out (akl _ _)
 have h1:1<=d.length:=by omega
 have h9:d.length<=9:=by omega
 clear hl;go_enter Tryz.func163,Tryz.ntmps163
 go_wp2_with fail
 refine abd.out.mono ?_;rintro e w' ⟨rfl,rfl⟩;go_wp2;go_loopw [6] (fun v wr=>∃k N:Nat,wr=w.iter ⟨d.toArray⟩ k/\k<=d.length/\v= .int .i64 (N:Int)/\Hid (N=mF (d.take k))/\∀j c,j<k->d[j]? =some c->gp c=true) (fun _ wr=>d.length - wr.iterPos w.heap.size)
 case atStart=>exact⟨0,0,rfl,by omega,rfl,rfl,by omega⟩
 case round=>
  obtain⟨k,N,rfl,hk,rfl,hN,hall⟩:=hrel;by_cases hlt:k<d.length
  ·obtain⟨c,hc⟩:∃c,d[k]? =some c:=⟨_,ako hlt⟩
   have hb:=byte_at d k c hc hlt;have hvb:N<=999999999:=by have:=Ep d k (by omega) hall;rw[<-hN.out] at this;omega
   by_cases ha:c.toNat<128
   ·have hnx:∀ty,(Instr.next (.pointer (some ⟨w.heap.size,0,none⟩)) true ty).run Tryz.prog (w.iter ⟨d.toArray⟩ k)=_:=fun ty=>run_next_ascii w ⟨d.toArray⟩ k ty hlt (by rw[hb];exact ha)
    rw[hb] at hnx;by_cases hdg:gp c=true
    ·have hend:Hid (∀v:Int,v=10*(N:Int)+((c.toNat:Int) - 48)->∃k' N':Nat,w.iter ⟨d.toArray⟩ (k+1)=w.iter ⟨d.toArray⟩ k'/\k'<=d.length/\Value.int .i64 v= .int .i64 (N':Int)/\Hid (N'=mF (d.take k'))/\∀j c,j<k'->d[j]? =some c->gp c=true):=by
      intro v hv;have h48:=(lN c).1 hdg;refine⟨k+1,10*N+(c.toNat - 48),rfl,by omega,?_,?_,Nb d k c hc hdg hall⟩
      ·rw[hv];congr 1
       omega
      show _=_;rw[Ui d k c hc,hN.out]
     obtain⟨q1,q2⟩:=(lN c).1 hdg;clear hc hall hb hdg;go_wp2;go_roundw
     case rel=>exact hend.out _ (by omega)
     case measure=>simp;omega
    have hno:=hd0 (Pe d c (akt hc) (by simpa using hdg));have hq:¬(48<=c.toNat/\c.toNat<=57):=fun h=>hdg ((lN c).2 h)
    have hq2:(c.toNat:Int)<48\/57<(c.toNat:Int):=by omega
    clear hc hall hb hdg hq;rcases hq2 with hq2|hq2
    ·go_wp2
     go_ret2
     exact(hpost.out _).1 hno.out (kD _ _ _)
    go_wp2
    go_ret2
    exact(hpost.out _).1 hno.out (kD _ _ _)
   obtain⟨hd1,-⟩:=decode_high ⟨d.toArray⟩ k hlt (by rw[hb];omega);have hd2:=decode_le ⟨d.toArray⟩ k;have hnx:∀ty,(Instr.next (.pointer (some ⟨w.heap.size,0,none⟩)) true ty).run Tryz.prog (w.iter ⟨d.toArray⟩ k)=_:=fun ty=>run_next_any w ⟨d.toArray⟩ k ty hlt
   have hno:=hd0 (Pe d c (akt hc) (by rw[<-Bool.not_eq_true,lN];omega));clear hc hall hb;generalize Utf8.decode ⟨d.toArray⟩ k=D at*
   obtain⟨r,wd⟩:=D;simp only at hd1 hd2 hnx;go_wp2
   go_ret2
   exact(hpost.out _).1 hno.out (kD _ _ _)
  obtain rfl:k=d.length:=by omega
  have hyes:=hd0 (La d (Qb d hall) h1 h9);have hvb:N<=999999999:=by have:=Ep d d.length (by omega) hall;rw[<-hN.out] at this;omega
  have SA:Hid (mF d=N):=by show _=_;rw[hN.out,akr]
  have hnx:∀ty,(Instr.next (.pointer (some ⟨w.heap.size,0,none⟩)) true ty).run Tryz.prog (w.iter ⟨d.toArray⟩ d.length)=_:=fun ty=>run_next_end w ⟨d.toArray⟩ d.length ty hlt
  clear hall;cases sg with
  |true=>
   have hp:=hd0 ((hpost.out (w.iter ⟨d.toArray⟩ d.length)).2.1 hyes.out rfl (kD _ _ _));rw[SA.out] at hp;go_wp2
   go_ret2
   exact hp.out
  |false=>
   have hp:=hd0 ((hpost.out (w.iter ⟨d.toArray⟩ d.length)).2.2 hyes.out rfl (kD _ _ _));rw[SA.out] at hp;go_wp2
   go_ret2
   exact hp.out
theorem ZN:(Tryz.prog.info? 119).map (fun i=>(i.zero,i.size,i.bytes))=some (some (.slice none 0 0),1,24):=by kernel_rfl
theorem YY:(Tryz.prog.info? 124).map (fun i=>(i.zero,i.size,i.bytes))=some (some (.agg #[.int .i64 0,.int .i64 0,.string ⟨#[]⟩]),3,32):=by kernel_rfl
theorem MK (w:World)(ws:List P3)(Bd:Nat)(A:Option Addr)(n c:Nat)(hr:Rd w Bd A n 3 (dA ws))(hB:Bd<=w.heap.size)(hn:n<=1000000000):
  Calls Tryz.prog 127 #[.slice A n c] w (gJ 124 119 w ws):=by
 obtain⟨i0,hi0,hz0,hz1,hz2⟩:=info_parts ZN;obtain⟨j0,hj0,hy0,hy1,hy2⟩:=info_parts YY;have hwl:=hd0 hr.aiE;go_enter Tryz.func127,Tryz.ntmps127
 go_wp2;go_loopw [4,5,6,13] (fun v r o i wr=>∃k:Nat,k<=n/\i= .int .i64 k/\((o= .bool false/\pG 124 119 w ws k v wr)\/(o= .bool true/\uU 124 119 w ws k v r wr))) (fun _ _ _ i _=>n - (intOf i).toNat)
 case atStart=>exact⟨0,by omega,rfl,.inl ⟨rfl,Gs _ _ _ _ _ _ ⟨rfl,.inl ⟨rfl,rfl⟩⟩ (akl _ _)⟩⟩
 case round=>
  obtain⟨k,hk,rfl,hst⟩:=hrel;by_cases hlt:k<n
  ·obtain⟨b,o,x,y,z,rfl,hbB,hp,q1,q2,q3⟩:=hr.at3 hlt;rcases hst with⟨rfl,hst⟩|⟨rfl,hst⟩
   ·have hbl:Below w.heap.size w wr:=by obtain⟨_,_,_,_,_,_,h⟩:=hst;exact h
    have p1:wr.cell? ⟨b,o+k*3,none⟩=some (.int .i64 x):=(hbl.cell (p:=⟨b,o+k*3,none⟩) (by simp;omega)).trans q1;have p2:wr.cell? ⟨b,o+k*3+1,none⟩=some (.int .i64 y):=(hbl.cell (p:=⟨b,o+k*3+1,none⟩) (by simp;omega)).trans q2;have p3:wr.cell? ⟨b,o+k*3+2,none⟩=some (.string ⟨z.toArray⟩):=(hbl.cell (p:=⟨b,o+k*3+2,none⟩) (by simp;omega)).trans q3;by_cases h91:z=[91]
    ·have e1:(z==[91])=true:=by simp[h91]
     have e2:(z==[93])=false:=by rw[h91];decide
     have lW:=e2;have qN:=hd0 (fun(W1 W2:World) (hb:Below wr.heap.size wr W1) (h5:W2.ownsRow W1.heap.size 124 3 (.slice none 0 0) 0 []) hb2=>Jj hst hp.out h91 hb W2 h5 hb2);clear h91 lW q1 q2 q3 hst;go_wp2_with fail
     go_quiet (fail)
     obtain⟨W1,hW1⟩:∃W1,W1=(wr.alloc (.cells #[.int .i64 x,.int .i64 y,.string ⟨z.toArray⟩] 124)).drewN nq:=⟨_,rfl⟩
     rw[<-hW1];have hb1:Below wr.heap.size wr W1:=by rw[hW1];exact below_drewN ((akl _ _).alloc (nr _) _) nq
     have r1:W1.cell? ⟨wr.heap.size,0,none⟩=some (.int .i64 x):=by rw[hW1];exact(Bk.new wr 124 #[.int .i64 x,.int .i64 y,.string ⟨z.toArray⟩]).cell 0
     have r2:W1.cell? ⟨wr.heap.size,1,none⟩=some (.int .i64 y):=by rw[hW1];exact(Bk.new wr 124 #[.int .i64 x,.int .i64 y,.string ⟨z.toArray⟩]).cell 1
     have r3:W1.cell? ⟨wr.heap.size,2,none⟩=some (.string ⟨z.toArray⟩):=by rw[hW1];exact(Bk.new wr 124 #[.int .i64 x,.int .i64 y,.string ⟨z.toArray⟩]).cell 2
     have hs1:wr.heap.size+1<=W1.heap.size:=by rw[hW1];simp
     clear hW1 p1 p2 p3;go_wp2;go_roundw
     case rel=>exact⟨k+1,by omega,by simp,.inr ⟨rfl,qN.out W1 W1 hb1 ⟨rfl,.inl ⟨rfl,rfl⟩⟩ (akl _ _)⟩⟩
     case measure=>simp[intOf];omega
    have e1:(z==[91])=false:=by simpa using h91
    by_cases lW:z=[93]
    ·have e2:(z==[93])=true:=by simp[lW]
     have hpost:=hd0 (fun(W1:World) (hb:Below wr.heap.size wr W1)=>JP hst hp.out lW hb);clear h91 lW q1 q2 q3 hst;go_wp2_with fail
     go_quiet (fail)
     obtain⟨W1,hW1⟩:∃W1,W1=(wr.alloc (.cells #[.int .i64 x,.int .i64 y,.string ⟨z.toArray⟩] 124)).drewN nq:=⟨_,rfl⟩
     rw[<-hW1];have hb1:Below wr.heap.size wr W1:=by rw[hW1];exact below_drewN ((akl _ _).alloc (nr _) _) nq
     have r1:W1.cell? ⟨wr.heap.size,0,none⟩=some (.int .i64 x):=by rw[hW1];exact(Bk.new wr 124 #[.int .i64 x,.int .i64 y,.string ⟨z.toArray⟩]).cell 0
     have r2:W1.cell? ⟨wr.heap.size,1,none⟩=some (.int .i64 y):=by rw[hW1];exact(Bk.new wr 124 #[.int .i64 x,.int .i64 y,.string ⟨z.toArray⟩]).cell 1
     have r3:W1.cell? ⟨wr.heap.size,2,none⟩=some (.string ⟨z.toArray⟩):=by rw[hW1];exact(Bk.new wr 124 #[.int .i64 x,.int .i64 y,.string ⟨z.toArray⟩]).cell 2
     have hs1:wr.heap.size+1<=W1.heap.size:=by rw[hW1];simp
     clear hW1 p1 p2 p3;go_wp2
     go_ret2
     exact hpost.out W1 hb1
    have e2:(z==[93])=false:=by simpa using lW
    obtain⟨told,hs,g1,g2,g3,g4,g6⟩:=hst;obtain⟨A4,c4,rfl,-⟩:=Rd.ail g3;have qN:=hd0 (fun A5 c5 v6 W1 W2 hb hr' h15 hown hg=>Gn (t:=124) (tr:=119) (A5:=A5) (c5:=c5) (v6:=v6) (W1:=W1) (W2:=W2) g1 g2 g3 g4 g6 hp.out h91 lW hb hr' h15 hown hg (by decide));clear h91 lW q1 q2 q3 g2;have s6:=g6.size;go_wp2_with fail
    go_quiet (fail)
    obtain⟨W1,hW1⟩:∃W1,W1=(wr.alloc (.cells #[.int .i64 x,.int .i64 y,.string ⟨z.toArray⟩] 124)).drewN nq:=⟨_,rfl⟩
    rw[<-hW1];have hb1:Below wr.heap.size wr W1:=by rw[hW1];exact below_drewN ((akl _ _).alloc (nr _) _) nq
    have r1:W1.cell? ⟨wr.heap.size,0,none⟩=some (.int .i64 x):=by rw[hW1];exact(Bk.new wr 124 #[.int .i64 x,.int .i64 y,.string ⟨z.toArray⟩]).cell 0
    have r2:W1.cell? ⟨wr.heap.size,1,none⟩=some (.int .i64 y):=by rw[hW1];exact(Bk.new wr 124 #[.int .i64 x,.int .i64 y,.string ⟨z.toArray⟩]).cell 1
    have r3:W1.cell? ⟨wr.heap.size,2,none⟩=some (.string ⟨z.toArray⟩):=by rw[hW1];exact(Bk.new wr 124 #[.int .i64 x,.int .i64 y,.string ⟨z.toArray⟩]).cell 2
    have hs1:wr.heap.size+1<=W1.heap.size:=by rw[hW1];simp
    clear hW1 p1 p2 p3;go_wp2_with (at_builtin;refine fP _ rfl (.tmp 23) (.tmp 26) 109 rfl w.heap.size 119 i0 _ 1 24 Tryz.underlying109 hi0 hz0 hz1 hz2 rfl (by decide) (.slice A4 hs.length c4) hs.length hs rfl (((own_below g3 hb1).alloc _).alloc _) ((W1.heap.size+1)+1) (some ⟨(W1.heap.size+1),0,none⟩) 1 1 [.slice (some ⟨W1.heap.size,0,none⟩) 1 1] rfl (by exact Rd.newAt _ _ (by simp) #[.slice (some ⟨W1.heap.size,0,none⟩) 1 1] 119 1 1 rfl) (by simp[Value.oneCell']) (by simp only[maxLen];omega) (by omega) (by simp;omega) ?_;intro v2 w2 hown2 hg2 _)
    go_roundw
    case rel=>
     refine⟨k+1,by omega,by simp,.inl ⟨rfl,qN.out _ _ _ ((W1.alloc (.cells #[.int .i64 x,.int .i64 y,.string ⟨z.toArray⟩] 124)).alloc (.cells #[.slice (some ⟨W1.heap.size,0,none⟩) 1 1] 119)) _ ?_ ?_ (nr 1) hown2 hg2⟩⟩
     ·exact(hb1.alloc (by omega) _).alloc (by simp;omega) _
     exact(RdT.new W1 #[.int .i64 x,.int .i64 y,.string ⟨z.toArray⟩] 124 1 3 rfl).alloc _
    case measure=>simp[intOf];omega
   have hbl:Below w.heap.size w wr:=by obtain⟨_,_,_,_,_,_,_,_,_,h6,h7,_⟩:=hst;exact h6.trans (h7.mono h6.size)
   have p1:wr.cell? ⟨b,o+k*3,none⟩=some (.int .i64 x):=(hbl.cell (p:=⟨b,o+k*3,none⟩) (by simp;omega)).trans q1;have p2:wr.cell? ⟨b,o+k*3+1,none⟩=some (.int .i64 y):=(hbl.cell (p:=⟨b,o+k*3+1,none⟩) (by simp;omega)).trans q2;have p3:wr.cell? ⟨b,o+k*3+2,none⟩=some (.string ⟨z.toArray⟩):=(hbl.cell (p:=⟨b,o+k*3+2,none⟩) (by simp;omega)).trans q3;by_cases h91:z=[91]
   ·have e1:(z==[91])=true:=by simp[h91]
    have e2:(z==[93])=false:=by rw[h91];decide
    have lW:=e2;have hpost:=hd0 (fun(W1:World) (hb:Below wr.heap.size wr W1)=>JM hst hp.out h91 hb);clear h91 lW q1 q2 q3 hst;go_wp2_with fail
    go_quiet (fail)
    obtain⟨W1,hW1⟩:∃W1,W1=(wr.alloc (.cells #[.int .i64 x,.int .i64 y,.string ⟨z.toArray⟩] 124)).drewN nq:=⟨_,rfl⟩
    rw[<-hW1];have hb1:Below wr.heap.size wr W1:=by rw[hW1];exact below_drewN ((akl _ _).alloc (nr _) _) nq
    have r1:W1.cell? ⟨wr.heap.size,0,none⟩=some (.int .i64 x):=by rw[hW1];exact(Bk.new wr 124 #[.int .i64 x,.int .i64 y,.string ⟨z.toArray⟩]).cell 0
    have r2:W1.cell? ⟨wr.heap.size,1,none⟩=some (.int .i64 y):=by rw[hW1];exact(Bk.new wr 124 #[.int .i64 x,.int .i64 y,.string ⟨z.toArray⟩]).cell 1
    have r3:W1.cell? ⟨wr.heap.size,2,none⟩=some (.string ⟨z.toArray⟩):=by rw[hW1];exact(Bk.new wr 124 #[.int .i64 x,.int .i64 y,.string ⟨z.toArray⟩]).cell 2
    have hs1:wr.heap.size+1<=W1.heap.size:=by rw[hW1];simp
    clear hW1 p1 p2 p3;go_wp2
    go_ret2
    exact hpost.out W1 hb1
   have e1:(z==[91])=false:=by simpa using h91
   by_cases lW:z=[93]
   ·have e2:(z==[93])=true:=by simp[lW]
    obtain⟨told,hs,row,Wo,g1,g2,g3,g4,g5,g6,g7,g8⟩:=hst;obtain⟨A4,c4,rfl,-⟩:=Rd.ail g4;obtain⟨A5,c5,rfl,-⟩:=Rd.ail g8;have s6:=g6.size;have s7:=g7.size;have qN:=hd0 (fun v6 W1 W2 hb hown hg=>F8 (t:=124) (tr:=119) (v6:=v6) (W1:=W1) (W2:=W2) g1 g3 g4 g5 g6 g7 g8 hp.out lW hb hown hg (by decide));have hl4:=own_below g4 g7;clear h91 lW q1 q2 q3 g3;go_wp2_with fail
    go_quiet (fail)
    obtain⟨W1,hW1⟩:∃W1,W1=(wr.alloc (.cells #[.int .i64 x,.int .i64 y,.string ⟨z.toArray⟩] 124)).drewN nq:=⟨_,rfl⟩
    rw[<-hW1];have hb1:Below wr.heap.size wr W1:=by rw[hW1];exact below_drewN ((akl _ _).alloc (nr _) _) nq
    have r1:W1.cell? ⟨wr.heap.size,0,none⟩=some (.int .i64 x):=by rw[hW1];exact(Bk.new wr 124 #[.int .i64 x,.int .i64 y,.string ⟨z.toArray⟩]).cell 0
    have r2:W1.cell? ⟨wr.heap.size,1,none⟩=some (.int .i64 y):=by rw[hW1];exact(Bk.new wr 124 #[.int .i64 x,.int .i64 y,.string ⟨z.toArray⟩]).cell 1
    have r3:W1.cell? ⟨wr.heap.size,2,none⟩=some (.string ⟨z.toArray⟩):=by rw[hW1];exact(Bk.new wr 124 #[.int .i64 x,.int .i64 y,.string ⟨z.toArray⟩]).cell 2
    have hs1:wr.heap.size+1<=W1.heap.size:=by rw[hW1];simp
    clear hW1 p1 p2 p3;go_wp2_with (at_builtin;refine fP _ rfl (.tmp 42) (.tmp 44) 109 rfl w.heap.size 119 i0 _ 1 24 Tryz.underlying109 hi0 hz0 hz1 hz2 rfl (by decide) (.slice A4 hs.length c4) hs.length hs rfl ((own_below hl4 hb1).alloc _) (W1.heap.size+1) (some ⟨W1.heap.size,0,none⟩) 1 1 [.slice A5 row.length c5] rfl (by exact Rd.newAt _ _ (by simp) #[.slice A5 row.length c5] 119 1 1 rfl) (by simp[Value.oneCell']) (by simp only[maxLen];omega) (by omega) (by simp;omega) ?_;intro v2 w2 hown2 hg2 _)
    go_roundw
    case rel=>exact⟨k+1,by omega,by simp,.inl ⟨rfl,qN.out _ _ _ (hb1.alloc (by omega) _) hown2 hg2⟩⟩
    case measure=>simp[intOf];omega
   have e2:(z==[93])=false:=by simpa using lW
   obtain⟨told,hs,row,Wo,g1,g2,g3,g4,g5,g6,g7,g8⟩:=hst;obtain⟨A4,c4,rfl,-⟩:=Rd.ail g4;obtain⟨A5,c5,rfl,-⟩:=Rd.ail g8;have s6:=g6.size;have s7:=g7.size;have qN:=hd0 (fun v6 W1 W2 hb hown hg=>NE (t:=124) (tr:=119) (v6:=v6) (W1:=W1) (W2:=W2) g1 g2 g3 g4 g5 g6 g7 g8 hp.out h91 lW hb hown hg);clear h91 lW q1 q2 q3 g3;go_wp2_with fail
   go_quiet (fail)
   obtain⟨W1,hW1⟩:∃W1,W1=(wr.alloc (.cells #[.int .i64 x,.int .i64 y,.string ⟨z.toArray⟩] 124)).drewN nq:=⟨_,rfl⟩
   rw[<-hW1];have hb1:Below wr.heap.size wr W1:=by rw[hW1];exact below_drewN ((akl _ _).alloc (nr _) _) nq
   have r1:W1.cell? ⟨wr.heap.size,0,none⟩=some (.int .i64 x):=by rw[hW1];exact(Bk.new wr 124 #[.int .i64 x,.int .i64 y,.string ⟨z.toArray⟩]).cell 0
   have r2:W1.cell? ⟨wr.heap.size,1,none⟩=some (.int .i64 y):=by rw[hW1];exact(Bk.new wr 124 #[.int .i64 x,.int .i64 y,.string ⟨z.toArray⟩]).cell 1
   have r3:W1.cell? ⟨wr.heap.size,2,none⟩=some (.string ⟨z.toArray⟩):=by rw[hW1];exact(Bk.new wr 124 #[.int .i64 x,.int .i64 y,.string ⟨z.toArray⟩]).cell 2
   have hs1:wr.heap.size+1<=W1.heap.size:=by rw[hW1];simp
   clear hW1 p1 p2 p3;go_wp2_with (at_builtin;refine fP _ rfl (.tmp 48) (.tmp 50) 119 rfl Wo.heap.size 124 j0 _ 3 32 Tryz.underlying119 hj0 hy0 hy1 hy2 rfl (by decide) (.slice A5 row.length c5) row.length (dA row) rfl ((own_below g8 hb1).alloc _) (W1.heap.size+1) (some ⟨W1.heap.size,0,none⟩) 1 1 [.int .i64 x,.int .i64 y,.string ⟨z.toArray⟩] rfl (by exact Rd.newAt _ _ (by simp) #[.int .i64 x,.int .i64 y,.string ⟨z.toArray⟩] 124 1 3 rfl) (by simp[Value.oneCell']) (by simp only[maxLen];omega) (by omega) (by simp;omega) ?_;intro v2 w2 hown2 hg2 _)
   go_roundw
   case rel=>exact⟨k+1,by omega,by simp,.inr ⟨rfl,qN.out _ _ _ (hb1.alloc (by omega) _) hown2 hg2⟩⟩
   case measure=>simp[intOf];omega
  obtain rfl:k=n:=by omega
  rcases hst with⟨rfl,hst⟩|⟨rfl,hst⟩
  ·obtain⟨A4,n4,c4,rfl⟩:∃A4 n4 c4,u4= .slice A4 n4 c4:=by
    obtain⟨_,_,_,_,h3,_,_⟩:=hst;obtain⟨A4,c4,h,-⟩:=Rd.ail h3;exact⟨_,_,_,h⟩
   have hpost:=hd0 (LZ hst (by rw[hwl.out];exact nr _));clear hst;go_wp2
   go_ret2
   exact hpost.out
  obtain⟨e1,e2⟩:=ML hst (by rw[hwl.out];exact nr _);have hpost:=hd0 (vX (t:=124) (tr:=119) e1 e2);clear hst e1 e2;go_wp2
  go_ret2
  exact hpost.out
end
end Go.Proofs.YtkijckccfookeaaGreatDoor
