/- parse: the words at a rule's end. -/
import Derived.Test.YtkijckccfookeaaGreatDoorV29
set_option linter.unusedVariables false
set_option linter.unusedSimpArgs false
set_option maxRecDepth 100000
set_option maxHeartbeats 32000000
namespace Go.Proofs.YtkijckccfookeaaGreatDoor
open Go.RowKit
attribute [-go_sem] Builtin.append_
abbrev lK:TypeId:=76
structure Two (w w':World)(a b:Nat):Prop where
 os:w'.os=w.os
 tape:w'.tape=w.tape
 output:w'.output=w.output
 size:w.heap.size<=w'.heap.size
 block:∀k,k<w.heap.size->k≠a->k≠b->w'.heap[k]? =w.heap[k]?
theorem Two.refl (w:World)(a b:Nat):Two w w a b:=⟨rfl,rfl,rfl,nr _,fun _ _ _ _=>rfl⟩
theorem Two.grown {w w1 w2:World}{a b:Nat}{row:Option Nat}(h:Two w w1 a b)(hg:w1.grownBy w2 row)(hr:∀g,row=some g->w.heap.size<=g\/g=a\/g=b):Two w w2 a b:=
 ⟨hg.os.trans h.os,hg.tape.trans h.tape,hg.output.trans h.output,nt h.size hg.size,fun k hk h1 h2=>(hg.block k (aku hk h.size) (fun e=>by
  rcases hr k e.symm with g|g|g
  ·omega
  ·exact h1 g
  exact h2 g)).trans (h.block k hk h1 h2)⟩
theorem Two.below {w0 w w':World}{a b:Nat}(h0:Below w0.heap.size w0 w)(h:Two w w' a b)(ha:w0.heap.size<=a)(hb:w0.heap.size<=b):Below w0.heap.size w0 w':=⟨h.os.trans h0.os,h.tape.trans h0.tape,h.output.trans h0.output,nt h0.size h.size,fun k hk=>(h.block k (aku hk h0.size) (by omega) (by omega)).trans (h0.block k hk)⟩
theorem Two.rdT {w w':World}{a b:Nat}(h:Two w w' a b){t ta tb:TypeId}{ca cb:Array Value}(ha:Bk w a ta ca)(hb:Bk w b tb cb)(n1:t≠ta)(n2:t≠tb){A:Option Addr}{n size:Nat}{cs:List Value}(hr:RdT w t A n size cs):RdT w' t A n size cs:=
 ⟨hr.1,fun h0=>by
  obtain⟨g,o,cur,e,hg,hc⟩:=hr.2 h0;refine⟨g,o,cur,e,hg.keep (h.block g hg.lt (fun e'=> ?_) (fun e'=> ?_)),hc⟩
  ·subst e';exact n1 (dR hg ha).1
  subst e';exact n2 (dR hg hb).1⟩
theorem aiX.two {w w':World}{p gm a b:Nat}{gl:Gl}(h:aiX w p gm gl)(ht:Two w w' a b)(hp:p<w.heap.size)(h1:p≠a)(h2:p≠b)(h3:gm≠a)(h4:gm≠b):aiX w' p gm gl:=⟨(World.cell?_of_block (a:=⟨p,10,none⟩) (ht.block p hp h1 h2)).trans h.cell,h.map.keep (ht.block gm h.map.lt h3 h4)⟩
structure aiQ (w:World)(C rb p:Nat)(v0 v1 v2:Value)(er:Int)(out:List Int)(calls:List Call)(x:Int)(w':World):Prop where
 bk:∃Ao co Ac cc,Bk w' C lK #[v0,v1,v2,.slice Ao out.length co,.slice Ac calls.length cc,.int .i64 x]/\w'.ownsRow w.heap.size 3 1 (.slice Ao out.length co) out.length (aW out)/\w'.ownsRow w.heap.size 95 2 (.slice Ac calls.length cc) calls.length (qE calls)
 rd:Rdr w' rb p er
 two:Two w w' rb C
theorem aiX.below {w w':World}{p gm:Nat}{gl:Gl}(h:aiX w p gm gl)(hb:Below w.heap.size w w'):aiX w' p gm gl:=⟨(World.cell?_of_block (a:=⟨p,10,none⟩) (hb.block p (World.block_lt_of_cell? w ⟨p,10,none⟩ h.cell))).trans h.cell,h.map.below hb⟩
theorem TU {l m:List B}{z:B}(gl:Gl)(err:Int)(h:m=l++[z]):rO gl err m=jB gl (rO gl err l) z:=by subst h;simp[rO]
theorem aiQ.more {w wr w1 w2:World}{C rb p:Nat}{v0 v1 v2:Value}{er yO:Int}{out:List Int}{vz:Int}{Ao A6 Ac:Option Addr}{co c6 cc:Nat}{o:Obj}(hb:Bk wr C lK #[v0,v1,v2,.slice Ao out.length co,.slice Ac 0 cc,.int .i64 0])(ho:wr.ownsRow w.heap.size 3 1 (.slice Ao out.length co) out.length (aW out))(hoc:wr.ownsRow w.heap.size 95 2 (.slice Ac 0 cc) 0 [])
  (hrd:Rdr wr rb p er) (htw:Two w wr rb C) (hrc:rb≠C) (hr1:Rdr w1 rb p yO) (hg1:(wr.alloc o).grownBy w1 (some rb)) (ho2:w2.ownsRow w.heap.size 3 1 (.slice A6 (out.length+1) c6) (out.length+1) (aW out++[.int .i64 vz])) (hg2:w1.grownBy w2 (Value.slice Ao out.length co).ownBlock):
  aiQ w C rb p v0 v1 v2 yO (out++[vz]) [] 0 (w2.setCell ⟨C,3,none⟩ (.slice A6 (out.length+1) c6))/\w2.cell? ⟨C,3,none⟩=some (.slice Ao out.length co)/\w2.frozen? ⟨C,3,none⟩=false:=by
 have hg1':wr.grownBy w1 (some rb):=bZ (World.grownBy_alloc _ _ _) hg1;have o1:=ho.kept hg1' (bQ ho hrd (by decide));have oc1:=hoc.kept hg1' (bQ hoc hrd (by decide));have b1:Bk w1 C lK _:=Bk.kept2 hg1' hb (fun e=>hrc e.symm);have b2:=Bk.grown b1 hg2 o1 (by decide);have oc2:=oc1.kept hg2 (own_ne oc1 o1 (by decide));have r2:=Bk.grown hr1 hg2 o1 (by decide);have s1:=htw.size;refine⟨⟨⟨A6,c6,Ac,cc,?_,?_,qA oc2 b2 (by decide) 3 _⟩,Bk.far r2 (by simpa using hrc) _,((htw.grown hg1' (fun g e=>by cases e;exact .inr (.inl rfl))).grown hg2 (fun g e=> .inl (ho.lt g e).1)).grown (dC w2 ⟨C,3,none⟩ _) (fun g e=>by cases e;exact .inr (.inr rfl))⟩,b2.cell 3,b2.frozen 3⟩
 ·have:=b2.set 3 (.slice A6 (out.length+1) c6);rw[la];exact this
 rw[la,BQ];exact qA ho2 b2 (by decide) 3 _
theorem TC (w:World)(C rb p gm:Nat)(gl:Gl)(kind err:Int)(v0 v1 v2:Value)(A:Option Addr)(n c:Nat)(ws:List P3)(hk:kind=1\/kind=2\/kind=3\/kind=5)(hC:Bk w C lK #[v0,v1,v2,.slice none 0 0,.slice none 0 0,.int .i64 0])(hR:Rdr w rb p err)(hG:aiX w p gm gl)
  (hp:p<w.heap.size) (p1:p≠rb) (p2:p≠C) (p3:gm≠rb) (p4:gm≠C) (hw:RdT w dW A n 3 (dA ws)) (hn:n<=1000000000):
  Calls Tryz.prog 138 #[.pointer (some ⟨rb,0,none⟩),.int .i64 kind,.slice A n c,.pointer (some ⟨C,0,none⟩)] w fun e w'=>e= .returned (.tuple #[])/\aiQ w C rb p v0 v1 v2 (rO gl err (af ws)) ((af ws).map (fF gl)) [] 0 w':=by
 have hwl:=hd0 hw.rd.aiE;have hrc:rb≠C:=fun e=>by
  subst e;have:=(dR hR hC).1
  revert this
  decide
 have HC:=hd0 hC;have HR:=hd0 hR;have HG:=hd0 hG;have HW:=hd0 hw;have HP:=hd0 hp;clear hC hR hG hw hp;go_enter Tryz.func138,Tryz.ntmps138
 rcases hk with rfl|rfl|rfl|rfl
 all_goals
  go_wp2;go_loopw [18] (fun i wr=>∃k:Nat,k<=n/\i= .int .i64 k/\aiQ w C rb p v0 v1 v2 (rO gl err ((af ws).take k)) (((af ws).take k).map (fF gl)) [] 0 wr) (fun i _=>n - (intOf i).toNat)
  case atStart=>exact⟨0,nz _,rfl,⟨none,0,none,0,HC.out,World.ownsRow_nil _ _ _ _,World.ownsRow_nil _ _ _ _⟩,HR.out,Two.refl _ _ _⟩
  case round=>
   obtain⟨k,hk,rfl,⟨Ao,co,Ac,cc,hb,ho,hoc⟩,hrd,htw⟩:=hrel;by_cases hlt:k<n
   ·obtain⟨b,o,x,y,z,rfl,hbl,hpz,q1,q2,q3⟩:=HW.out.rd.at3 hlt;have hsn:=sG hpz.out;obtain⟨_,_,_,e9,g1⟩:∃b' o' cur,(some ⟨b,o,none⟩:Option Addr)=some ⟨b',o',none⟩/\Bk wr b' dW cur:=by obtain⟨b',o',cur,e,hk,-⟩:=(htw.rdT HR.out HC.out (by decide) (by decide) HW.out).2 (by omega);exact⟨b',o',cur,e,hk⟩
    have G5:=(htw.rdT HR.out HC.out (by decide) (by decide) HW.out).rd;obtain⟨b',o',x',y',z',e',agF,acs,p1',p2',p3'⟩:=G5.at3 hlt;obtain⟨rfl,rfl⟩:b=b'/\o=o':=by simpa using e'
    obtain⟨rfl,rfl,rfl⟩:x=x'/\y=y'/\z=z':=by have:=hpz.out.symm.trans acs.out;simpa using this
    have hs1:Hid (((af ws).take (k+1)).map (fF gl)=((af ws).take k).map (fF gl)++[fF gl z]):=by show _=_;rw[hsn,akY];rfl
    have hs2:=hd0 (TU gl err hsn);have hlk:Hid ((((af ws).take k).map (fF gl)).length=k):=by show _=_;rw[aks,akH,iF,hwl.out];omega
    have a_c:wr.cell? ⟨C,3,none⟩=some (.slice Ao (((af ws).take k).map (fF gl)).length co):=hb.cell 3;have zc:C<wr.heap.size:=hb.lt;have HGm:=hd0 (HG.out.two htw HP.out p1 p2 p3 p4);have JO:=hd0 (fun er (h:Rdr wr rb p er)=>xP ((wr.alloc (.cells #[.int .i64 x,.int .i64 y,.string ⟨z.toArray⟩] dW)).drew) rb p gm gl er z (h.alloc _) (HGm.out.below ((akl _ _).alloc (nr _) _).drew));generalize hls:((af ws).take k).map (fF gl)=outs at*
    generalize rO gl err ((af ws).take k)=er at*
    generalize fF gl z=vz at*
    rw[hlk.out] at a_c;have hs9:=htw.size;have Hb:=hd0 hb;have Ho:=hd0 ho;have Hoc:=hd0 hoc;have Hrd:=hd0 hrd;have Htw:=hd0 htw;clear hpz acs hsn e' e9 g1 G5 q1 q2 q3 hls hb ho hoc hrd htw;go_wp2_with fail
    go_region_with (go_at_call 132;refine(JO.out _ (by exact Hrd.out)).mono ?_;rintro e w1 ⟨rfl,hr1,hg1⟩;have hgg:(wr.alloc (.cells #[.int .i64 x,.int .i64 y,.string ⟨z.toArray⟩] dW)).grownBy w1 (some rb):=⟨hg1.os,hg1.tape,hg1.output,hg1.size,hg1.block⟩;have hgw:wr.grownBy w1 (some rb):=bZ (World.grownBy_alloc _ _ _) hgg;have b1:Bk w1 C lK _:=Bk.kept2 hgw Hb.out (fun e=>hrc e.symm);have k1:w1.cell? ⟨C,3,none⟩=some (.slice Ao k co):=(b1.cell 3).trans (by rw[<-hlk.out];rfl);have zc1:=b1.lt;have ho1:=Ho.out.kept hgw (bQ Ho.out Hrd.out (by decide));have hz1:=hgw.size;obtain⟨A6,c6,w2,hrun,ho2,hg2,-⟩:=vF qK 22 w1 w.heap.size _ co Ao _ #[.int .i64 vz] rfl ho1 (by simp[Value.oneCell']) (by rw[hlk.out];omega) (by omega);obtain⟨W9,x9,y9⟩:=aiQ.more Hb.out Ho.out Hoc.out Hrd.out Htw.out hrc hr1 hgg ho2 hg2;rw[hlk.out] at hrun x9;rw[hlk.out,<-hs1.out,<-hs2.out] at W9;have adH:=hd0 W9;clear W9 ho2 hg2 ho1 b1 hgw hgg hr1 hg1)
    all_goals
     go_wp2
     go_round
     case rel=>exact⟨k+1,by omega,by simp,adH.out⟩
     case measure=>simp[intOf];omega
   obtain rfl:k=n:=by omega
   have ht:Hid ((af ws).take k=af ws):=by show _=_;exact akE (by rw[iF,hwl.out];exact nr _)
   rw[ht.out] at hb ho hrd;have HO:Hid (aiQ w C rb p v0 v1 v2 (rO gl err (af ws)) ((af ws).map (fF gl)) [] 0 wr):=⟨⟨_,_,_,_,hb,ho,hoc⟩,hrd,htw⟩
   clear hb ho hoc hrd htw;go_wp2
   go_end0
   exact⟨rfl,HO.out⟩
end Go.Proofs.YtkijckccfookeaaGreatDoor
