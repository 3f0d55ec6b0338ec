/- Lemmas. -/
import Derived.Test.YtkijckccfookeaaGreatDoorU10
set_option linter.unusedVariables false
set_option linter.unusedSimpArgs false
set_option maxRecDepth 100000
set_option maxHeartbeats 32000000
namespace Go.Proofs.YtkijckccfookeaaGreatDoor
open Go.RowKit
def zS (t:B):Bool:=t.getLast? ==some 42
theorem ac7 (t:B):Lib.trimSuffix t [42]=dX t/\Lib.hasSuffix t [42]=zS t:=by
 have hs:Lib.hasSuffix t [42]=zS t:=by
  rw[Lib.hasSuffix,zS,Bool.eq_iff_iff,List.isSuffixOf_iff_suffix,beq_iff_eq];constructor
  ·rintro⟨r,rfl⟩;exact List.getLast?_concat
  intro h;obtain⟨r,hr⟩:=List.getLast?_eq_some_iff.1 h;exact⟨r,hr.symm⟩
 refine⟨?_,hs⟩;rw[Lib.trimSuffix,hs,dX,zS];by_cases h:t.getLast? =some 42
 ·rw[if_pos h,if_pos (by simpa using h),List.dropLast_eq_take];rfl
 rw[if_neg h,if_neg (by simpa using h)]
theorem Yg (w:World)(t:B)(ht:t.length<=100000000):Calls Tryz.prog 171 #[.string ⟨t.toArray⟩,.string ⟨#[42]⟩] w fun e w'=>e= .returned (.tuple #[.string ⟨(dX t).toArray⟩,.bool (zS t)])/\w=w':=by obtain⟨e1,e2⟩:=ac7 t;refine(Tryz.strings_CutSuffix ⟨t.toArray⟩ ⟨#[42]⟩ w (by show t.length<=_;omega)).mono ?_;rintro e w' ⟨h1,h2⟩;refine⟨?_,h2.symm⟩;rw[h1,<-e1,<-e2]
theorem TU (t:B):(dX t).length<=t.length:=by
 unfold dX;split
 ·simp
 exact af _
theorem MV (c:UInt8)(t:B):(dh c t).length<=t.length:=(List.takeWhile_prefix (l:=t) (fun x=>x !=c)).length_le
theorem Fg (c:UInt8)(t:B):(dM c t).length<=t.length:=by unfold dM;have:=(List.dropWhile_suffix (l:=t) (fun x=>x !=c)).length_le;simp;omega
theorem CQ (f:Int->B->Int){l m:List B}{z:B}(err:Int)(h:m=l++[z]):m.foldl f err=f (l.foldl f err) z:=by subst h;simp
def qJ (l:List Ins):List Value:=l.flatMap fun i=>[.int .i64 i.op,.int .i64 i.a]
def Bh (l:List Pt):List Value:=l.flatMap fun i=>[.int .i64 i.x,.int .i64 i.y,.bool i.on]
def sU (l:List Call):List Value:=l.flatMap fun i=>[.int .i64 i.at',.int .i64 i.lookup]
theorem Rdr.drewN {w:World}{rb p:Nat}{err:Int}(h:Rdr w rb p err)(n:Nat):Rdr (w.drewN n) rb p err:=h
theorem Bk.newAt (W:World)(h:Nat)(hh:W.heap.size=h){t:TypeId}{cs:Array Value}:Bk (W.alloc (.cells cs t)) h t cs:=by subst hh;exact Bk.new _ _ _
theorem Bk.kept2 {w w':World}{rb g:Nat}(hg:w.grownBy w' (some rb)){t:TypeId}{cs:Array Value}(h:Bk w g t cs)(hne:g≠rb):Bk w' g t cs:=(hg.block g h.lt (fun e=>by injection e with e;exact hne e)).trans h
def nT:Nat:=3+1
structure ali (w:World):Prop where
 ops:alE w 0 (strs opNames)
 anch:alE w 2 (strs anchorNames)
 kinds:alE w 3 (strs aG)
theorem alE.keep {w w':World}{g:Nat}{cs:List Value}(h:alE w g cs)(hk:w'.heap[g]? =w.heap[g]?):alE w' g cs:=by obtain⟨t,fz,h⟩:=h;exact⟨t,fz,hk.trans h⟩
theorem ali.grown {w w':World}{row:Option Nat}(h:ali w)(hg:w.grownBy w' row)(hr:∀g,row=some g->nT<=g):ali w':=by unfold nT at hr;refine⟨h.ops.keep (hg.block _ h.ops.lt fun e=> ?_),h.anch.keep (hg.block _ h.anch.lt fun e=> ?_),h.kinds.keep (hg.block _ h.kinds.lt fun e=> ?_)⟩<;>(have:=hr _ e.symm;omega)
theorem ali.below {w w':World}(h:ali w)(hb:Below w.heap.size w w'):ali w':=h.grown (row:=none) (aB hb none) (fun g e=>by cases e)
theorem FN {α:Type}{l m:List B}{z:B}(f:B->α)(h:m=l++[z]):m.map f=l.map f++[f z]:=by subst h;simp
theorem aac (w:World)(rb p:Nat)(err:Int)(A:Option Addr)(n c:Nat)(ws:List P3)(hR:Rdr w rb p err)(hw:RdT w 124 A n 3 (dD ws))(hl:∀x∈ws,x.2.2.length<=100000000)(hn:n<=1000000000):
  Calls Tryz.prog 174 #[.pointer (some ⟨rb,0,none⟩),.slice A n c] w (Ol 95 2 w rb p ((ag ws).foldl mg err) n (sU ((ag ws).map kZ))):=by
 have hwl:=hd0 hw.rd.alH;have HR:=hd0 hR;have HW:=hd0 hw;have HL:=hd0 hl;clear hR hw hl;go_enter Tryz.func174,Tryz.ntmps174
 go_wp2;go_loopw [5,14] (fun v i wr=>∃k:Nat,k<=n/\i= .int .i64 k/\ak9 95 2 w rb p (((ag ws).take k).foldl mg err) k (sU (((ag ws).take k).map kZ)) v wr) (fun _ i _=>n - (intOf i).toNat)
 case atStart=>exact⟨0,nz _,rfl,ak9.start HR.out (World.grownBy.refl _ _)⟩
 case round=>
  obtain⟨k,hk,rfl,A4,c4,rfl,ho,hr,hg⟩:=hrel;by_cases hlt:k<n
  ·obtain⟨b,o,x,y,z,rfl,hp,q1,q2,q3⟩:=yx HW.out HR.out hg hlt;have hz:z.length<=100000000:=HL.out _ (uw hp.out);have hs:=uK hp.out;have hs1:=hd0 (FN kZ hs);have hs2:=hd0 (CQ mg err hs);have hr0:=hd0 hr;have HG:=hd0 hg;have hsz:=hg.size;have hrb:rb<wr.heap.size:=hr.lt;have hcs:Hid (sU (((ag ws).take k).map kZ++[kZ z])=sU (((ag ws).take k).map kZ)++sU [kZ z]):=by show _=_;simp[sU]
   rw[<-hs1.out] at hcs;generalize sU (((ag ws).take k).map kZ)=xs at*
   generalize ((ag ws).take k).foldl mg err=er at*
   have hx:=nt (MV 58 z) hz;have hy:=nt (Fg 58 z) hz;have hc1:=hd0 (fun w=>Nk w z 58 hz);have hn1:=hd0 (fun w h=>dP w rb p er (dh 58 z) h hx);have hn2:=hd0 (fun w h=>dP w rb p (aK er (dh 58 z)) (dM 58 z) h hy);have hes:Hid (mg er z=aK (aK er (dh 58 z)) (dM 58 z)):=rfl;have hvs:Hid (sU [kZ z]=[.int .i64 (aI (dh 58 z)),.int .i64 (aI (dM 58 z))]):=rfl;generalize hr1e:aK er (dh 58 z)=er1 at*
   generalize hr2e:aK er1 (dM 58 z)=AU at*
   generalize aI (dh 58 z)=v1 at*
   generalize aI (dM 58 z)=v2 at*
   clear hp hs hz hr hx hy hr1e hr2e hg;go_wp2_with (go_at_call 168;refine(hc1.out _).mono ?_;rintro e w1 ⟨rfl,nd,rfl⟩)
   go_wp2_with fail
   refine(hn1.out _ (by exact((hr0.out.alloc _).drewN nd).alloc _)).mono ?_;rintro e w2 ⟨rfl,hr2,hg2⟩;have tV:wr.grownBy w2 (some rb):=df (iZ (jK (World.grownBy_alloc wr _ _) nd) _) hg2;have B1:Bk w2 (wr.heap.size+1) 95 #[.int .i64 0,.int .i64 0]:=Bk.kept2 hg2 (Bk.newAt _ _ (by simp)) (by simp;omega);have c0:=B1.cell 0;have f0:=B1.frozen 0;have z2:=B1.lt;simp only[List.getElem?_toArray,anF] at c0;have HB1:=hd0 B1;have BH:=hd0 tV;have lM:=hd0 hr2;clear B1 tV hr2 hg2;go_wp2_with fail
   refine(hn2.out _ (by exact Bk.far lM.out (by simp;omega) _)).mono ?_;rintro e w3 ⟨rfl,hr3,hg3⟩;have wM:wr.grownBy w3 (some rb):=df (aU BH.out (.inr (by simp)) _) hg3;have B2:Bk w3 (wr.heap.size+1) 95 #[.int .i64 v1,.int .i64 0]:=Bk.kept2 hg3 (HB1.out.set 0 _) (by simp;omega);have d0:w3.cell? ⟨wr.heap.size+1,0,none⟩=some (.int .i64 v1):=B2.cell 0;have d1:w3.cell? ⟨wr.heap.size+1,1,none⟩=some (.int .i64 0):=B2.cell 1;have g1:=B2.frozen 1;have z3:=B2.lt;have CZ:=hd0 wM;have lZ:=hd0 hr3;clear B2 wM hr3 hg3;go_wp2_with (at_builtin;refine iP Py rfl (.tmp 33) (.tmp 35) rfl (w3.setCell ⟨wr.heap.size+1,1,none⟩ (.int .i64 v2)) w3.heap.size (by simp) w.heap.size k c4 A4 xs #[.int .i64 v1,.int .i64 v2] rfl rfl rfl (ho.kept (aU CZ.out (.inr (by simp)) _) (bY ho hr0.out (by decide))) (by simp[Value.oneCell']) (by omega) (by simp;omega) ?_;intro A5 c5 w4 fJ hg4 _)
   go_roundw
   case rel=>exact⟨k+1,by omega,by simp,by rw[hs2.out,hes.out,hcs.out,hvs.out];exact ak9.next ho hr0.out HG.out (Bk.far lZ.out (by simp;omega) _) (aU CZ.out (.inr (by simp)) _) fJ hg4 (by decide)⟩
   case measure=>simp[intOf];omega
  obtain rfl:k=n:=by omega
  have ht:Hid ((ag ws).take k=ag ws):=by show _=_;exact anN (by rw[iC,hwl.out];exact af _)
  rw[ht.out] at ho hr;go_wp2;go_ret
  exact⟨_,rfl,A4,c4,rfl,ho,hr,hg⟩
theorem VX (w:World)(rb p:Nat)(err:Int)(A:Option Addr)(n c:Nat)(ws:List P3)(hR:Rdr w rb p err)(hw:RdT w 124 A n 3 (dD ws))(hl:∀x∈ws,x.2.2.length<=100000000)(hn:n<=1000000000):
  Calls Tryz.prog 131 #[.pointer (some ⟨rb,0,none⟩),.slice A n c] w (Ol 139 3 w rb p ((ag ws).foldl xZ err) n (Bh ((ag ws).map qR))):=by
 have hwl:=hd0 hw.rd.alH;have HR:=hd0 hR;have HW:=hd0 hw;have HL:=hd0 hl;clear hR hw hl;go_enter Tryz.func131,Tryz.ntmps131
 go_wp2;go_loopw [5,16] (fun v i wr=>∃k:Nat,k<=n/\i= .int .i64 k/\ak9 139 3 w rb p (((ag ws).take k).foldl xZ err) k (Bh (((ag ws).take k).map qR)) v wr) (fun _ i _=>n - (intOf i).toNat)
 case atStart=>exact⟨0,nz _,rfl,ak9.start HR.out (World.grownBy.refl _ _)⟩
 case round=>
  obtain⟨k,hk,rfl,A4,c4,rfl,ho,hr,hg⟩:=hrel;by_cases hlt:k<n
  ·obtain⟨b,o,x,y,z,rfl,hp,q1,q2,q3⟩:=yx HW.out HR.out hg hlt;have hz:z.length<=100000000:=HL.out _ (uw hp.out);have hs:=uK hp.out;have hs1:=hd0 (FN qR hs);have hs2:=hd0 (CQ xZ err hs);have hr0:=hd0 hr;have HG:=hd0 hg;have hsz:=hg.size;have hrb:rb<wr.heap.size:=hr.lt;have hcs:Hid (Bh (((ag ws).take k).map qR++[qR z])=Bh (((ag ws).take k).map qR)++Bh [qR z]):=by show _=_;simp[Bh]
   rw[<-hs1.out] at hcs;generalize Bh (((ag ws).take k).map qR)=xs at*
   generalize ((ag ws).take k).foldl xZ err=er at*
   have hu:=nt (TU z) hz;have hx:=nt (MV 44 (dX z)) hu;have hy:=nt (Fg 44 (dX z)) hu;have hc0:=hd0 (fun w=>Yg w z hz);have hc1:=hd0 (fun w=>Nk w (dX z) 44 hu);have hn1:=hd0 (fun w h=>dP w rb p er (dh 44 (dX z)) h hx);have hn2:=hd0 (fun w h=>dP w rb p (aK er (dh 44 (dX z))) (dM 44 (dX z)) h hy);have hes:Hid (xZ er z=aK (aK er (dh 44 (dX z))) (dM 44 (dX z))):=rfl;have hvs:Hid (Bh [qR z]=[.int .i64 (aI (dh 44 (dX z))),.int .i64 (aI (dM 44 (dX z))),.bool (!zS z)]):=rfl;generalize hr1e:aK er (dh 44 (dX z))=er1 at*
   generalize hr2e:aK er1 (dM 44 (dX z))=AU at*
   generalize aI (dh 44 (dX z))=v1 at*
   generalize aI (dM 44 (dX z))=v2 at*
   generalize zS z=sb at*
   clear hp hs hz hr hx hy hr1e hr2e hg hu;go_wp2_with (go_at_call 171;refine(hc0.out _).mono ?_;rintro e w0 ⟨rfl,rfl⟩)
   go_wp2_with (go_at_call 168;refine(hc1.out _).mono ?_;rintro e w1 ⟨rfl,nd,rfl⟩)
   go_wp2_with fail
   refine(hn1.out _ (by exact((hr0.out.alloc _).drewN nd).alloc _)).mono ?_;rintro e w2 ⟨rfl,hr2,hg2⟩;have tV:wr.grownBy w2 (some rb):=df (iZ (jK (World.grownBy_alloc wr _ _) nd) _) hg2;have B1:Bk w2 (wr.heap.size+1) 139 #[.int .i64 0,.int .i64 0,.bool (!sb)]:=Bk.kept2 hg2 (Bk.newAt _ _ (by simp)) (by simp;omega);have c0:w2.cell? ⟨wr.heap.size+1,0,none⟩=some (.int .i64 0):=B1.cell 0;have f0:=B1.frozen 0;have z2:=B1.lt;have HB1:=hd0 B1;have BH:=hd0 tV;have lM:=hd0 hr2;clear B1 tV hr2 hg2;go_wp2_with fail
   refine(hn2.out _ (by exact Bk.far lM.out (by simp;omega) _)).mono ?_;rintro e w3 ⟨rfl,hr3,hg3⟩;have wM:wr.grownBy w3 (some rb):=df (aU BH.out (.inr (by simp)) _) hg3;have B2:Bk w3 (wr.heap.size+1) 139 #[.int .i64 v1,.int .i64 0,.bool (!sb)]:=Bk.kept2 hg3 (HB1.out.set 0 _) (by simp;omega);have d0:w3.cell? ⟨wr.heap.size+1,0,none⟩=some (.int .i64 v1):=B2.cell 0;have d1:w3.cell? ⟨wr.heap.size+1,1,none⟩=some (.int .i64 0):=B2.cell 1;have d2:w3.cell? ⟨wr.heap.size+1,2,none⟩=some (.bool (!sb)):=B2.cell 2;have g1:=B2.frozen 1;have z3:=B2.lt;have CZ:=hd0 wM;have lZ:=hd0 hr3;clear B2 wM hr3 hg3;go_wp2_with (at_builtin;refine iP Z8 rfl (.tmp 43) (.tmp 45) rfl (w3.setCell ⟨wr.heap.size+1,1,none⟩ (.int .i64 v2)) w3.heap.size (by simp) w.heap.size k c4 A4 xs #[.int .i64 v1,.int .i64 v2,.bool (!sb)] rfl rfl rfl (ho.kept (aU CZ.out (.inr (by simp)) _) (bY ho hr0.out (by decide))) (by simp[Value.oneCell']) (by omega) (by simp;omega) ?_;intro A5 c5 w4 fJ hg4 _)
   go_roundw
   case rel=>exact⟨k+1,by omega,by simp,by rw[hs2.out,hes.out,hcs.out,hvs.out];exact ak9.next ho hr0.out HG.out (Bk.far lZ.out (by simp;omega) _) (aU CZ.out (.inr (by simp)) _) fJ hg4 (by decide)⟩
   case measure=>simp[intOf];omega
  obtain rfl:k=n:=by omega
  have ht:Hid ((ag ws).take k=ag ws):=by show _=_;exact anN (by rw[iC,hwl.out];exact af _)
  rw[ht.out] at ho hr;go_wp2;go_ret
  exact⟨_,rfl,A4,c4,rfl,ho,hr,hg⟩
theorem Yt (w:World)(rb p:Nat)(err:Int)(A:Option Addr)(n c:Nat)(ws:List P3)(hT:ali w)(hrb0:nT<=rb)(hR:Rdr w rb p err)(hw:RdT w 124 A n 3 (dD ws))(hl:∀x∈ws,x.2.2.length<=100000000)(hn:n<=1000000000):
  Calls Tryz.prog 126 #[.pointer (some ⟨rb,0,none⟩),.slice A n c] w (Ol 61 2 w rb p ((ag ws).foldl sQ err) n (qJ ((ag ws).map jW))):=by
 have hwl:=hd0 hw.rd.alH;have HR:=hd0 hR;have HW:=hd0 hw;have HL:=hd0 hl;clear hR hw hl;go_enter Tryz.func126,Tryz.ntmps126
 go_wp2;go_loopw [5,16] (fun v i wr=>∃k:Nat,k<=n/\i= .int .i64 k/\ak9 61 2 w rb p (((ag ws).take k).foldl sQ err) k (qJ (((ag ws).take k).map jW)) v wr) (fun _ i _=>n - (intOf i).toNat)
 case atStart=>exact⟨0,nz _,rfl,ak9.start HR.out (World.grownBy.refl _ _)⟩
 case round=>
  obtain⟨k,hk,rfl,A4,c4,rfl,ho,hr,hg⟩:=hrel;by_cases hlt:k<n
  ·obtain⟨b,o,x,y,z,rfl,hp,q1,q2,q3⟩:=yx HW.out HR.out hg hlt;have hz:z.length<=100000000:=HL.out _ (uw hp.out);have hs:=uK hp.out;have hs1:=hd0 (FN jW hs);have hs2:=hd0 (CQ sQ err hs);have hr0:=hd0 hr;have HG:=hd0 hg;have hsz:=hg.size;have hrb:rb<wr.heap.size:=hr.lt;have hcs:Hid (qJ (((ag ws).take k).map jW++[jW z])=qJ (((ag ws).take k).map jW)++qJ [jW z]):=by show _=_;simp[qJ]
   rw[<-hs1.out] at hcs;generalize qJ (((ag ws).take k).map jW)=xs at*
   generalize ((ag ws).take k).foldl sQ err=er at*
   have hy:=nt (Fg 58 z) hz;have hT0:=hT.grown hg (fun g e=>by cases e;exact hrb0);have HT1:Hid (∀nd,ali ((wr.alloc (.cells #[.int .i64 x,.int .i64 y,.string ⟨z.toArray⟩] 124)).drewN nd)):=fun nd=>hT0.below (below_drewN ((ant _ _).alloc (af _) _) nd)
   have hc1:=hd0 (fun w=>Nk w z 58 hz);have hop:Hid (∀w,ali w->_):=hd0 (fun w (h:ali w)=>TE w (dh 58 z) h.ops);have hes0:Hid (sQ er z=if hasB 58 z then aK (if er=0/\sJ (dh 58 z)=0 then 23 else er) (dM 58 z) else if er=0/\sJ (dh 58 z)=0 then 23 else er):=rfl;have ve:Hid (qJ [jW z]=[.int .i64 (sJ (dh 58 z)),.int .i64 (if hasB 58 z then aI (dM 58 z) else 0)]):=rfl;have hn0:=hd0 (fun w er h=>dP w rb p er (dM 58 z) h hy);generalize hopv:sJ (dh 58 z)=opv at*
   clear hp hs hz hr hy hg hT0 hopv;by_cases ho0:opv=0
   ·have hok:Hid ((opv !=0)=false):=by show _=_;simp[ho0]
    have We:(if er=0/\opv=0 then(23:Int) else er)=eC er 23:=by rw[eC];simp[ho0]
    rw[We] at hes0;clear ho0 We;cases hsb:hasB 58 z
    ·have hsm:Hid (hasB 58 z=false):=hsb;rw[hsb] at hes0 ve;have hes:Hid (sQ er z=eC er 23):=hes0.out;have hvs:Hid (qJ [jW z]=[.int .i64 opv,.int .i64 0]):=ve.out;clear hsb hes0 ve;go_wp2_with (go_at_call 168;refine(hc1.out _).mono ?_;rintro e w1 ⟨rfl,nd,rfl⟩;rw[hsm.out])
     go_wp2_with (go_at_call 25;refine(hop.out _ (by exact HT1.out nd)).mono ?_;rintro e w1 ⟨rfl,rfl⟩;rw[hok.out])
     go_wp2_with fail
     refine(qO _ rb p er 23 (by exact(hr0.out.alloc _).drewN nd)).mono ?_;rintro e w2 ⟨rfl,hr2,hg2⟩;have tV:wr.grownBy w2 (some rb):=df (jK (World.grownBy_alloc wr _ _) nd) hg2;have z2:=tV.size;have BH:=hd0 tV;have lM:=hd0 hr2;clear tV hr2 hg2;go_wp2_with (at_builtin;refine iP Dq rfl (.tmp 43) (.tmp 45) rfl (w2.alloc (.cells #[.int .i64 opv,.int .i64 0] 61)) (w2.heap.size+1) (by simp) w.heap.size k c4 A4 xs #[.int .i64 opv,.int .i64 0] rfl rfl rfl (ho.kept (iZ BH.out _) (bY ho hr0.out (by decide))) (by simp[Value.oneCell']) (by omega) (by simp;omega) ?_;intro A5 c5 w4 fJ hg4 _)
     go_roundw
     case rel=>exact⟨k+1,by omega,by simp,by rw[hs2.out,hes.out,hcs.out,hvs.out];exact ak9.next ho hr0.out HG.out (lM.out.alloc _) (iZ BH.out _) fJ hg4 (by decide)⟩
     case measure=>simp[intOf];omega
    have hsm:Hid (hasB 58 z=true):=hsb;rw[hsb] at hes0 ve;have hes:Hid (sQ er z=aK (eC er 23) (dM 58 z)):=hes0.out;have hvs:Hid (qJ [jW z]=[.int .i64 opv,.int .i64 (aI (dM 58 z))]):=ve.out;have hn2:=hd0 (fun w h=>hn0.out w (eC er 23) h);generalize aK (eC er 23) (dM 58 z)=AU at*
    generalize aI (dM 58 z)=v2 at*
    clear hsb hes0 ve;go_wp2_with (go_at_call 168;refine(hc1.out _).mono ?_;rintro e w1 ⟨rfl,nd,rfl⟩;rw[hsm.out])
    go_wp2_with (go_at_call 25;refine(hop.out _ (by exact HT1.out nd)).mono ?_;rintro e w1 ⟨rfl,rfl⟩;rw[hok.out])
    go_wp2_with fail
    refine(qO _ rb p er 23 (by exact(hr0.out.alloc _).drewN nd)).mono ?_;rintro e w2 ⟨rfl,hr2,hg2⟩;have tV:wr.grownBy w2 (some rb):=df (jK (World.grownBy_alloc wr _ _) nd) hg2;have z2:=tV.size;have BH:=hd0 tV;have lM:=hd0 hr2;clear tV hr2 hg2;go_wp2_with fail
    refine(hn2.out _ (by exact lM.out.alloc _)).mono ?_;rintro e w3 ⟨rfl,hr3,hg3⟩;have wM:wr.grownBy w3 (some rb):=df (iZ BH.out _) hg3;have B2:Bk w3 w2.heap.size 61 #[.int .i64 opv,.int .i64 0]:=Bk.kept2 hg3 (Bk.new _ _ _) (by omega);have d0:w3.cell? ⟨w2.heap.size,0,none⟩=some (.int .i64 opv):=B2.cell 0;have d1:w3.cell? ⟨w2.heap.size,1,none⟩=some (.int .i64 0):=B2.cell 1;have g1:=B2.frozen 1;have z3:=B2.lt;have CZ:=hd0 wM;have lZ:=hd0 hr3;clear B2 wM hr3 hg3;go_wp2_with (at_builtin;refine iP Dq rfl (.tmp 43) (.tmp 45) rfl (w3.setCell ⟨w2.heap.size,1,none⟩ (.int .i64 v2)) w3.heap.size (by simp) w.heap.size k c4 A4 xs #[.int .i64 opv,.int .i64 v2] rfl rfl rfl (ho.kept (aU CZ.out (.inr (by simp;omega)) _) (bY ho hr0.out (by decide))) (by simp[Value.oneCell']) (by omega) (by simp;omega) ?_;intro A5 c5 w4 fJ hg4 _)
    go_roundw
    case rel=>exact⟨k+1,by omega,by simp,by rw[hs2.out,hes.out,hcs.out,hvs.out];exact ak9.next ho hr0.out HG.out (Bk.far lZ.out (by simp;omega) _) (aU CZ.out (.inr (by simp;omega)) _) fJ hg4 (by decide)⟩
    case measure=>simp[intOf];omega
   have hok:Hid ((opv !=0)=true):=by show _=_;simpa using ho0
   have We:(if er=0/\opv=0 then(23:Int) else er)=er:=if_neg (fun h=>ho0 h.2);rw[We] at hes0;clear ho0 We;cases hsb:hasB 58 z
   ·have hsm:Hid (hasB 58 z=false):=hsb;rw[hsb] at hes0 ve;have hes:Hid (sQ er z=er):=hes0.out;have hvs:Hid (qJ [jW z]=[.int .i64 opv,.int .i64 0]):=ve.out;clear hsb hes0 ve;go_wp2_with (go_at_call 168;refine(hc1.out _).mono ?_;rintro e w1 ⟨rfl,nd,rfl⟩;rw[hsm.out])
    go_wp2_with (first
     |(go_at_call 25;refine(hop.out _ (by exact HT1.out nd)).mono ?_;rintro e w1 ⟨rfl,rfl⟩;rw[hok.out])
     |(at_builtin;refine iP Dq rfl (.tmp 43) (.tmp 45) rfl ((((wr.alloc (.cells #[.int .i64 x,.int .i64 y,.string ⟨z.toArray⟩] 124)).drewN nd)).alloc (.cells #[.int .i64 opv,.int .i64 0] 61)) (wr.heap.size+1+1) (by simp) w.heap.size k c4 A4 xs #[.int .i64 opv,.int .i64 0] rfl rfl rfl (ho.kept (iZ (jK (World.grownBy_alloc wr _ _) nd) _) (bY ho hr0.out (by decide))) (by simp[Value.oneCell']) (by omega) (by simp;omega) ?_;intro A5 c5 w4 fJ hg4 _))
    go_roundw
    case rel=>exact⟨k+1,by omega,by simp,by rw[hs2.out,hes.out,hcs.out,hvs.out];exact ak9.next ho hr0.out HG.out (((hr0.out.alloc _).drewN nd).alloc _) (iZ (jK (World.grownBy_alloc wr _ _) nd) _) fJ hg4 (by decide)⟩
    case measure=>simp[intOf];omega
   have hsm:Hid (hasB 58 z=true):=hsb;rw[hsb] at hes0 ve;have hes:Hid (sQ er z=aK er (dM 58 z)):=hes0.out;have hvs:Hid (qJ [jW z]=[.int .i64 opv,.int .i64 (aI (dM 58 z))]):=ve.out;have hn2:=hd0 (fun w h=>hn0.out w er h);generalize aK er (dM 58 z)=AU at*
   generalize aI (dM 58 z)=v2 at*
   clear hsb hes0 ve;go_wp2_with (go_at_call 168;refine(hc1.out _).mono ?_;rintro e w1 ⟨rfl,nd,rfl⟩;rw[hsm.out])
   go_wp2_with (go_at_call 25;refine(hop.out _ (by exact HT1.out nd)).mono ?_;rintro e w1 ⟨rfl,rfl⟩;rw[hok.out])
   go_wp2_with fail
   refine(hn2.out _ (by exact((hr0.out.alloc _).drewN nd).alloc _)).mono ?_;rintro e w3 ⟨rfl,hr3,hg3⟩;have wM:wr.grownBy w3 (some rb):=df (iZ (jK (World.grownBy_alloc wr _ _) nd) _) hg3;have B2:Bk w3 (wr.heap.size+1) 61 #[.int .i64 opv,.int .i64 0]:=Bk.kept2 hg3 (Bk.newAt _ _ (by simp)) (by simp;omega);have d0:w3.cell? ⟨wr.heap.size+1,0,none⟩=some (.int .i64 opv):=B2.cell 0;have d1:w3.cell? ⟨wr.heap.size+1,1,none⟩=some (.int .i64 0):=B2.cell 1;have g1:=B2.frozen 1;have z3:=B2.lt;have CZ:=hd0 wM;have lZ:=hd0 hr3;clear B2 wM hr3 hg3;go_wp2_with (at_builtin;refine iP Dq rfl (.tmp 43) (.tmp 45) rfl (w3.setCell ⟨wr.heap.size+1,1,none⟩ (.int .i64 v2)) w3.heap.size (by simp) w.heap.size k c4 A4 xs #[.int .i64 opv,.int .i64 v2] rfl rfl rfl (ho.kept (aU CZ.out (.inr (by simp)) _) (bY ho hr0.out (by decide))) (by simp[Value.oneCell']) (by omega) (by simp;omega) ?_;intro A5 c5 w4 fJ hg4 _)
   go_roundw
   case rel=>exact⟨k+1,by omega,by simp,by rw[hs2.out,hes.out,hcs.out,hvs.out];exact ak9.next ho hr0.out HG.out (Bk.far lZ.out (by simp;omega) _) (aU CZ.out (.inr (by simp)) _) fJ hg4 (by decide)⟩
   case measure=>simp[intOf];omega
  obtain rfl:k=n:=by omega
  have ht:Hid ((ag ws).take k=ag ws):=by show _=_;exact anN (by rw[iC,hwl.out];exact af _)
  rw[ht.out] at ho hr;go_wp2;go_ret
  exact⟨_,rfl,A4,c4,rfl,ho,hr,hg⟩
end Go.Proofs.YtkijckccfookeaaGreatDoor
