/- Lemmas. -/
import Derived.Test.YtkijckccfookeaaGreatDoorV09
set_option linter.unusedVariables false
set_option linter.unusedSimpArgs false
set_option maxRecDepth 100000
set_option maxHeartbeats 32000000
namespace Go.Proofs.YtkijckccfookeaaGreatDoor
open Go.RowKit
section
theorem oG {α β:Type}(l:List α)(f:α->List β)(k n:Nat)(h:∀x∈l,(f x).length<=k)(hl:l.length<=n):(l.flatMap f).length<=n*k:=by
 have:(l.flatMap f).length<=l.length*k:=by
  clear hl;induction l with
  |nil=>simp
  |cons a r ih=>rw[akD,la,aF,alg];have:=h a (by simp);have:=ih (fun x hx=>h x (by simp[hx]));omega
 exact nt this (Nat.mul_le_mul_right k hl)
theorem uG (n:Int)(h:N9 n):(ag n).length<=10:=by
 unfold N9 at h;unfold ag Lib.itoa;split
 ·have:=(BK n.natAbs (by omega)).2;rw[aF];omega
 have:=(BK n.toNat (by omega)).2;omega
theorem ut {s:B}(h:nameB s=true):s.length<=16:=by rw[nameB,akK,decide_eq_true_iff] at h;exact h.1.2
def W32 (l:List B):Prop:=∀w∈l,w.length<=32
theorem W32.nil:W32 []:=fun w h=>by simp at h
theorem W32.cons {w:B}{l:List B}(h:w.length<=32)(k:W32 l):W32 (w::l):=fun x hx=>by
 rw[akx] at hx;rcases hx with rfl|hx
 ·exact h
 exact k x hx
theorem W32.app {a b:List B}(h:W32 a)(k:W32 b):W32 (a++b):=fun x hx=>by
 rw[akq] at hx;rcases hx with hx|hx
 ·exact h x hx
 exact k x hx
theorem W32.map {α:Type}{l:List α}{f:α->B}(h:∀x∈l,(f x).length<=32):W32 (l.map f):=fun w hw=>by
 rw[akQ] at hw;obtain⟨x,hx,rfl⟩:=hw;exact h x hx
theorem W32.flat {α:Type}{l:List α}{f:α->List B}(h:∀x∈l,W32 (f x)):W32 (l.flatMap f):=fun w hw=>by
 rw[akZ] at hw;obtain⟨x,hx,hw⟩:=hw;exact h x hx w hw
theorem W32.it {l:List Int}(h:∀n∈l,N9 n):W32 (l.map ag):=W32.map fun n hn=>nt (uG n (h n hn)) (by decide)
theorem XY (l:List B)(h:W32 l):(fC l).length<=33*l.length:=by have:(fC l).length<=l.length*33:=oG l _ 33 l.length (fun w hw=>by rw[aF];have:=h w hw;omega) (nr _);omega
def Lk (L:List (List B))(k:Nat):Prop:=(L.flatMap sO).length<=k
theorem Lk.line {l:List B}{n:Nat}(h:W32 l)(hl:l.length<=n):Lk [l] (33*n+1):=by
 unfold Lk;cases l with
 |nil=>simp[sO]
 |cons w r=>simp only[akD,ak5,akR,sO,au,la,aF,ln];have h1:=h w (by simp);have h2:=XY r (fun x hx=>h x (by simp[hx]));rw[aF] at hl;omega
theorem Lk.mono {L:List (List B)}{k n:Nat}(h:Lk L k)(hk:k<=n):Lk L n:=nt h hk
theorem Lk.nil (k:Nat):Lk [] k:=nz _
theorem Lk.app {a b:List (List B)}{k n:Nat}(h:Lk a k)(g:Lk b n):Lk (a++b) (k+n):=by
 unfold Lk at*
 rw[akT,la];omega
theorem Lk.cons {l:List B}{b:List (List B)}{k n:Nat}(h:Lk [l] k)(g:Lk b n):Lk (l::b) (k+n):=h.app g
theorem Lk.map {α:Type}{l:List α}{f:α->List B}{k n:Nat}(h:∀x∈l,Lk [f x] k)(hl:l.length<=n):Lk (l.map f) (n*k):=by
 unfold Lk at*
 rw[xE];exact oG l _ k n (fun x hx=>by have:=h x hx;simpa using this) hl
theorem Lk.flat {α:Type}{l:List α}{f:α->List (List B)}{k n:Nat}(h:∀x∈l,Lk (f x) k)(hl:l.length<=n):Lk (l.flatMap f) (n*k):=by
 unfold Lk at*
 rw[List.flatMap_assoc];exact oG l _ k n h hl
structure SmR (r:aii):Prop where
 rows:r.back.length<=3/\r.in'.length<=3/\r.ahead.length<=3
 sets:(∀s∈r.back,s.length<=4)/\(∀s∈r.in',s.length<=4)/\∀s∈r.ahead,s.length<=4
 outs:r.out.length<=4/\r.calls.length<=2
structure SmG (g:ahR):Prop where
 pts:g.points.length<=12
 ends:g.ends.length<=2
 parts:g.parts.length<=1
 anch:g.anchors.length<=5
 aid:g.deltas.length<=40
 hint:g.hint.length<=60
structure SmF (f:Fnt):Prop where
 ahO:f.ahO.length<=10/\∀g∈f.ahO,SmG g
 chars:f.chars.length<=16
 ahP:f.ahP.length<=6/\∀l∈f.ahP,l.rules.length<=3/\∀r∈l.rules,SmR r
 ahZ:f.features.length<=8/\∀x∈f.features,x.ahP.length<=6
 ahQ:f.ahQ.length<=2
 regs:f.regions.length<=3/\∀r∈f.regions,r.ah4.length<=2
 funcs:f.funcs.length<=2/\∀p∈f.funcs,p.length<=60
 cvt:f.cvt.length<=3
theorem aa0:∀s∈opNames,s.length<=8:=by decide
theorem Xx:∀s∈az,s.length<=9:=by decide
theorem SB:∀s∈anchorNames,s.length<=9:=by decide
theorem Dz (l:List B)(k:Nat)(h:∀s∈l,s.length<=k)(hk:1<=k)(n:Int):(pick l n).length<=k:=by
 unfold pick;split
 ·exact hk
 cases e:l[(n - 1).toNat]? with
 |none=>exact hk
 |some s=>exact h s (akt e)
theorem zS {gs:List ahR}(h:∀g∈gs,nameB g.name=true){n:Int}(hn:In gs.length n):(bV gs n).length<=32:=by obtain⟨h1,h2⟩:=hn;have e:gs[n.toNat]? =some (gs[n.toNat]'(by omega)):=ako (by omega);unfold bV;rw[if_neg (by omega),e];exact nt (ut (h _ (List.getElem_mem _))) (by decide)
theorem Zg {i:Ins}(h:N9 i.a):(dw i).length<=32:=by
 have h1:=Dz opNames 8 aa0 (by decide) i.op;have h2:=uG i.a h;unfold dw kL;rw[la];split
 ·simp only[ln];omega
 rw[aF];omega
theorem aar {p:Pt}(h:N9 p.x/\N9 p.y):(jb p).length<=32:=by
 have h1:=uG p.x h.1;have h2:=uG p.y h.2;unfold jb;simp only[la,aF];split
 ·simp only[ln];omega
 simp only[aF,ln];omega
theorem V4 {c:Call}(h:N9 c.at'/\N9 c.lookup):(ag c.at'++58::ag c.lookup).length<=32:=by have h1:=uG c.at' h.1;have h2:=uG c.lookup h.2;simp only[la,aF];omega
theorem n32 {n:Int}(h:N9 n):(ag n).length<=32:=nt (uG n h) (by decide)
theorem abE {p:List Ins}(h:xg p):W32 (p.map dw):=W32.map fun i hi=>Zg (h i hi).2.2
theorem UB (pts:List Pt)(es:List Int):∀fr,(eQ pts fr es).length<=es.length/\∀c∈eQ pts fr es,c.length<=pts.length/\∀p∈c,p∈pts:=by
 induction es with
 |nil=>intro fr;simp[eQ]
 |cons e es ih=>
  intro fr;rw[eQ];split
  ·simp
  obtain⟨h1,h2⟩:=ih (e.toNat+1);refine⟨by simp only[aF];omega,fun c hc=> ?_⟩;rw[akx] at hc;rcases hc with rfl|hc
  ·refine⟨?_,fun p hp=>List.mem_of_mem_take (List.mem_of_mem_drop hp)⟩;rw[ak0,akH];omega
  exact h2 c hc
section
variable {f:Fnt} (h:aiV f) (hs:SmF f)
include h in
theorem Nl:∀g∈f.ahO,nameB g.name=true:=fun g hg=>(h.ahO g hg).name
include h in
theorem YQ:Lk [[jK,ag f.unit]] 67:=Lk.line (n:=2) (.cons (by decide) (.cons (n32 h.unit) .nil)) (by simp)
end
end
section
def yg (t:B):Bool:=t.getLast? ==some 42
theorem aaS (t:B):Lib.trimSuffix t [42]=dU t/\Lib.hasSuffix t [42]=yg t:=by
 have hs:Lib.hasSuffix t [42]=yg t:=by
  rw[Lib.hasSuffix,yg,Bool.eq_iff_iff,List.isSuffixOf_iff_suffix,beq_iff_eq];constructor
  ·rintro⟨r,rfl⟩;exact List.getLast?_concat
  intro h;obtain⟨r,hr⟩:=List.getLast?_eq_some_iff.1 h;exact⟨r,hr.symm⟩
 refine⟨?_,hs⟩;rw[Lib.trimSuffix,hs,dU,yg];by_cases h:t.getLast? =some 42
 ·rw[if_pos h,if_pos (by simpa using h),List.dropLast_eq_take];rfl
 rw[if_neg h,if_neg (by simpa using h)]
theorem Vr (w:World)(t:B)(ht:t.length<=800000000):Calls Tryz.prog 171 #[.string ⟨t.toArray⟩,.string ⟨#[42]⟩] w fun e w'=>e= .returned (.tuple #[.string ⟨(dU t).toArray⟩,.bool (yg t)])/\w=w':=by obtain⟨e1,e2⟩:=aaS t;refine(Tryz.strings_CutSuffix ⟨t.toArray⟩ ⟨#[42]⟩ w (by show t.length<=_;omega)).mono ?_;rintro e w' ⟨h1,h2⟩;refine⟨?_,h2.symm⟩;rw[h1,<-e1,<-e2]
theorem Rw (t:B):(dU t).length<=t.length:=by
 unfold dU;split
 ·simp
 exact nr _
theorem JH (c:UInt8)(t:B):(cO c t).length<=t.length:=(List.takeWhile_prefix (l:=t) (fun x=>x !=c)).length_le
theorem DY (c:UInt8)(t:B):(dI c t).length<=t.length:=by unfold dI;have:=(List.dropWhile_suffix (l:=t) (fun x=>x !=c)).length_le;simp;omega
theorem zW (f:Int->B->Int){l m:List B}{z:B}(err:Int)(h:m=l++[z]):m.foldl f err=f (l.foldl f err) z:=by subst h;simp
def pW (l:List Ins):List Value:=l.flatMap fun i=>[.int .i64 i.op,.int .i64 i.a]
def AQ (l:List Pt):List Value:=l.flatMap fun i=>[.int .i64 i.x,.int .i64 i.y,.bool i.on]
def qE (l:List Call):List Value:=l.flatMap fun i=>[.int .i64 i.at',.int .i64 i.lookup]
theorem Rdr.drewN {w:World}{rb p:Nat}{err:Int}(h:Rdr w rb p err)(n:Nat):Rdr (w.drewN n) rb p err:=h
theorem Bk.newAt (W:World)(h:Nat)(hh:W.heap.size=h){t:TypeId}{cs:Array Value}:Bk (W.alloc (.cells cs t)) h t cs:=by subst hh;exact Bk.new _ _ _
theorem Bk.kept2 {w w':World}{rb g:Nat}(hg:w.grownBy w' (some rb)){t:TypeId}{cs:Array Value}(h:Bk w g t cs)(hne:g≠rb):Bk w' g t cs:=(hg.block g h.lt (fun e=>by injection e with e;exact hne e)).trans h
def nT:Nat:=3+1
structure ain (w:World):Prop where
 ops:aiD w 0 (strs opNames)
 anch:aiD w 2 (strs anchorNames)
 kinds:aiD w 3 (strs az)
theorem aiD.keep {w w':World}{g:Nat}{cs:List Value}(h:aiD w g cs)(hk:w'.heap[g]? =w.heap[g]?):aiD w' g cs:=by obtain⟨t,fz,h⟩:=h;exact⟨t,fz,hk.trans h⟩
theorem ain.grown {w w':World}{row:Option Nat}(h:ain w)(hg:w.grownBy w' row)(hr:∀g,row=some g->nT<=g):ain w':=by unfold nT at hr;refine⟨h.ops.keep (hg.block _ h.ops.lt fun e=> ?_),h.anch.keep (hg.block _ h.anch.lt fun e=> ?_),h.kinds.keep (hg.block _ h.kinds.lt fun e=> ?_)⟩<;>(have:=hr _ e.symm;omega)
theorem ain.below {w w':World}(h:ain w)(hb:Below w.heap.size w w'):ain w':=h.grown (row:=none) (aC hb none) (fun g e=>by cases e)
theorem En {α:Type}{l m:List B}{z:B}(f:B->α)(h:m=l++[z]):m.map f=l.map f++[f z]:=by subst h;simp
theorem Xy (w:World)(rb p:Nat)(err:Int)(A:Option Addr)(n c:Nat)(ws:List P3)(hR:Rdr w rb p err)(hw:RdT w 124 A n 3 (dA ws))(hl:∀x∈ws,x.2.2.length<=800000000)(hn:n<=1000000000):
  Calls Tryz.prog 174 #[.pointer (some ⟨rb,0,none⟩),.slice A n c] w (MB 95 2 w rb p ((af ws).foldl lQ err) n (qE ((af ws).map jI))):=by
 have hwl:=hd0 hw.rd.aiE;have HR:=hd0 hR;have HW:=hd0 hw;have HL:=hd0 hl;clear hR hw hl;go_enter Tryz.func174,Tryz.ntmps174
 go_wp2;go_loopw [5,14] (fun v i wr=>∃k:Nat,k<=n/\i= .int .i64 k/\aia 95 2 w rb p (((af ws).take k).foldl lQ err) k (qE (((af ws).take k).map jI)) v wr) (fun _ i _=>n - (intOf i).toNat)
 case atStart=>exact⟨0,nz _,rfl,aia.start HR.out (World.grownBy.refl _ _)⟩
 case round=>
  obtain⟨k,hk,rfl,A4,c4,rfl,ho,hr,hg⟩:=hrel;by_cases hlt:k<n
  ·obtain⟨b,o,x,y,z,rfl,hp,q1,q2,q3⟩:=wX HW.out HR.out hg hlt;have hz:z.length<=800000000:=HL.out _ (rU hp.out);have hs:=sG hp.out;have hs1:=hd0 (En jI hs);have hs2:=hd0 (zW lQ err hs);have hr0:=hd0 hr;have HG:=hd0 hg;have hsz:=hg.size;have hrb:rb<wr.heap.size:=hr.lt;have hcs:Hid (qE (((af ws).take k).map jI++[jI z])=qE (((af ws).take k).map jI)++qE [jI z]):=by show _=_;simp[qE]
   rw[<-hs1.out] at hcs;generalize qE (((af ws).take k).map jI)=xs at*
   generalize ((af ws).take k).foldl lQ err=er at*
   have hx:=nt (JH 58 z) hz;have hy:=nt (DY 58 z) hz;have hc1:=hd0 (fun w=>JE w z 58 hz);have hn1:=hd0 (fun w h=>dK w rb p er (cO 58 z) h hx);have hn2:=hd0 (fun w h=>dK w rb p (aG er (cO 58 z)) (dI 58 z) h hy);have hes:Hid (lQ er z=aG (aG er (cO 58 z)) (dI 58 z)):=rfl;have hvs:Hid (qE [jI z]=[.int .i64 (aA (cO 58 z)),.int .i64 (aA (dI 58 z))]):=rfl;generalize hr1e:aG er (cO 58 z)=er1 at*
   generalize hr2e:aG er1 (dI 58 z)=yO at*
   generalize aA (cO 58 z)=v1 at*
   generalize aA (dI 58 z)=v2 at*
   clear hp hs hz hr hx hy hr1e hr2e hg;go_wp2_with (go_at_call 168;refine(hc1.out _).mono ?_;rintro e w1 ⟨rfl,nd,rfl⟩)
   go_wp2_with fail
   refine(hn1.out _ (by exact((hr0.out.alloc _).drewN nd).alloc _)).mono ?_;rintro e w2 ⟨rfl,hr2,hg2⟩;have rJ:wr.grownBy w2 (some rb):=bZ (jX (lI (World.grownBy_alloc wr _ _) nd) _) hg2;have B1:Bk w2 (wr.heap.size+1) 95 #[.int .i64 0,.int .i64 0]:=Bk.kept2 hg2 (Bk.newAt _ _ (by simp)) (by simp;omega);have c0:=B1.cell 0;have f0:=B1.frozen 0;have z2:=B1.lt;simp only[List.getElem?_toArray,akw] at c0;have HB1:=hd0 B1;have zf:=hd0 rJ;have lm:=hd0 hr2;clear B1 rJ hr2 hg2;go_wp2_with fail
   refine(hn2.out _ (by exact Bk.far lm.out (by simp;omega) _)).mono ?_;rintro e w3 ⟨rfl,hr3,hg3⟩;have uH:wr.grownBy w3 (some rb):=bZ (dL zf.out (.inr (by simp)) _) hg3;have B2:Bk w3 (wr.heap.size+1) 95 #[.int .i64 v1,.int .i64 0]:=Bk.kept2 hg3 (HB1.out.set 0 _) (by simp;omega);have d0:w3.cell? ⟨wr.heap.size+1,0,none⟩=some (.int .i64 v1):=B2.cell 0;have d1:w3.cell? ⟨wr.heap.size+1,1,none⟩=some (.int .i64 0):=B2.cell 1;have g1:=B2.frozen 1;have z3:=B2.lt;have Az:=hd0 uH;have lG:=hd0 hr3;clear B2 uH hr3 hg3;go_wp2_with (at_builtin;refine lq aao rfl (.tmp 33) (.tmp 35) rfl (w3.setCell ⟨wr.heap.size+1,1,none⟩ (.int .i64 v2)) w3.heap.size (by simp) w.heap.size k c4 A4 xs #[.int .i64 v1,.int .i64 v2] rfl rfl rfl (ho.kept (dL Az.out (.inr (by simp)) _) (bQ ho hr0.out (by decide))) (by simp[Value.oneCell']) (by omega) (by simp;omega) ?_;intro A5 c5 w4 fD hg4 _)
   go_roundw
   case rel=>exact⟨k+1,by omega,by simp,by rw[hs2.out,hes.out,hcs.out,hvs.out];exact aia.next ho hr0.out HG.out (Bk.far lG.out (by simp;omega) _) (dL Az.out (.inr (by simp)) _) fD hg4 (by decide)⟩
   case measure=>simp[intOf];omega
  obtain rfl:k=n:=by omega
  have ht:Hid ((af ws).take k=af ws):=by show _=_;exact akE (by rw[iF,hwl.out];exact nr _)
  rw[ht.out] at ho hr;go_wp2;go_ret
  exact⟨_,rfl,A4,c4,rfl,ho,hr,hg⟩
theorem TR (w:World)(rb p:Nat)(err:Int)(A:Option Addr)(n c:Nat)(ws:List P3)(hR:Rdr w rb p err)(hw:RdT w 124 A n 3 (dA ws))(hl:∀x∈ws,x.2.2.length<=800000000)(hn:n<=1000000000):
  Calls Tryz.prog 131 #[.pointer (some ⟨rb,0,none⟩),.slice A n c] w (MB 139 3 w rb p ((af ws).foldl vw err) n (AQ ((af ws).map pX))):=by
 have hwl:=hd0 hw.rd.aiE;have HR:=hd0 hR;have HW:=hd0 hw;have HL:=hd0 hl;clear hR hw hl;go_enter Tryz.func131,Tryz.ntmps131
 go_wp2;go_loopw [5,16] (fun v i wr=>∃k:Nat,k<=n/\i= .int .i64 k/\aia 139 3 w rb p (((af ws).take k).foldl vw err) k (AQ (((af ws).take k).map pX)) v wr) (fun _ i _=>n - (intOf i).toNat)
 case atStart=>exact⟨0,nz _,rfl,aia.start HR.out (World.grownBy.refl _ _)⟩
 case round=>
  obtain⟨k,hk,rfl,A4,c4,rfl,ho,hr,hg⟩:=hrel;by_cases hlt:k<n
  ·obtain⟨b,o,x,y,z,rfl,hp,q1,q2,q3⟩:=wX HW.out HR.out hg hlt;have hz:z.length<=800000000:=HL.out _ (rU hp.out);have hs:=sG hp.out;have hs1:=hd0 (En pX hs);have hs2:=hd0 (zW vw err hs);have hr0:=hd0 hr;have HG:=hd0 hg;have hsz:=hg.size;have hrb:rb<wr.heap.size:=hr.lt;have hcs:Hid (AQ (((af ws).take k).map pX++[pX z])=AQ (((af ws).take k).map pX)++AQ [pX z]):=by show _=_;simp[AQ]
   rw[<-hs1.out] at hcs;generalize AQ (((af ws).take k).map pX)=xs at*
   generalize ((af ws).take k).foldl vw err=er at*
   have hu:=nt (Rw z) hz;have hx:=nt (JH 44 (dU z)) hu;have hy:=nt (DY 44 (dU z)) hu;have hc0:=hd0 (fun w=>Vr w z hz);have hc1:=hd0 (fun w=>JE w (dU z) 44 hu);have hn1:=hd0 (fun w h=>dK w rb p er (cO 44 (dU z)) h hx);have hn2:=hd0 (fun w h=>dK w rb p (aG er (cO 44 (dU z))) (dI 44 (dU z)) h hy);have hes:Hid (vw er z=aG (aG er (cO 44 (dU z))) (dI 44 (dU z))):=rfl;have hvs:Hid (AQ [pX z]=[.int .i64 (aA (cO 44 (dU z))),.int .i64 (aA (dI 44 (dU z))),.bool (!yg z)]):=rfl;generalize hr1e:aG er (cO 44 (dU z))=er1 at*
   generalize hr2e:aG er1 (dI 44 (dU z))=yO at*
   generalize aA (cO 44 (dU z))=v1 at*
   generalize aA (dI 44 (dU z))=v2 at*
   generalize yg z=sb at*
   clear hp hs hz hr hx hy hr1e hr2e hg hu;go_wp2_with (go_at_call 171;refine(hc0.out _).mono ?_;rintro e w0 ⟨rfl,rfl⟩)
   go_wp2_with (go_at_call 168;refine(hc1.out _).mono ?_;rintro e w1 ⟨rfl,nd,rfl⟩)
   go_wp2_with fail
   refine(hn1.out _ (by exact((hr0.out.alloc _).drewN nd).alloc _)).mono ?_;rintro e w2 ⟨rfl,hr2,hg2⟩;have rJ:wr.grownBy w2 (some rb):=bZ (jX (lI (World.grownBy_alloc wr _ _) nd) _) hg2;have B1:Bk w2 (wr.heap.size+1) 139 #[.int .i64 0,.int .i64 0,.bool (!sb)]:=Bk.kept2 hg2 (Bk.newAt _ _ (by simp)) (by simp;omega);have c0:w2.cell? ⟨wr.heap.size+1,0,none⟩=some (.int .i64 0):=B1.cell 0;have f0:=B1.frozen 0;have z2:=B1.lt;have HB1:=hd0 B1;have zf:=hd0 rJ;have lm:=hd0 hr2;clear B1 rJ hr2 hg2;go_wp2_with fail
   refine(hn2.out _ (by exact Bk.far lm.out (by simp;omega) _)).mono ?_;rintro e w3 ⟨rfl,hr3,hg3⟩;have uH:wr.grownBy w3 (some rb):=bZ (dL zf.out (.inr (by simp)) _) hg3;have B2:Bk w3 (wr.heap.size+1) 139 #[.int .i64 v1,.int .i64 0,.bool (!sb)]:=Bk.kept2 hg3 (HB1.out.set 0 _) (by simp;omega);have d0:w3.cell? ⟨wr.heap.size+1,0,none⟩=some (.int .i64 v1):=B2.cell 0;have d1:w3.cell? ⟨wr.heap.size+1,1,none⟩=some (.int .i64 0):=B2.cell 1;have d2:w3.cell? ⟨wr.heap.size+1,2,none⟩=some (.bool (!sb)):=B2.cell 2;have g1:=B2.frozen 1;have z3:=B2.lt;have Az:=hd0 uH;have lG:=hd0 hr3;clear B2 uH hr3 hg3;go_wp2_with (at_builtin;refine lq acA rfl (.tmp 43) (.tmp 45) rfl (w3.setCell ⟨wr.heap.size+1,1,none⟩ (.int .i64 v2)) w3.heap.size (by simp) w.heap.size k c4 A4 xs #[.int .i64 v1,.int .i64 v2,.bool (!sb)] rfl rfl rfl (ho.kept (dL Az.out (.inr (by simp)) _) (bQ ho hr0.out (by decide))) (by simp[Value.oneCell']) (by omega) (by simp;omega) ?_;intro A5 c5 w4 fD hg4 _)
   go_roundw
   case rel=>exact⟨k+1,by omega,by simp,by rw[hs2.out,hes.out,hcs.out,hvs.out];exact aia.next ho hr0.out HG.out (Bk.far lG.out (by simp;omega) _) (dL Az.out (.inr (by simp)) _) fD hg4 (by decide)⟩
   case measure=>simp[intOf];omega
  obtain rfl:k=n:=by omega
  have ht:Hid ((af ws).take k=af ws):=by show _=_;exact akE (by rw[iF,hwl.out];exact nr _)
  rw[ht.out] at ho hr;go_wp2;go_ret
  exact⟨_,rfl,A4,c4,rfl,ho,hr,hg⟩
theorem Uw (w:World)(rb p:Nat)(err:Int)(A:Option Addr)(n c:Nat)(ws:List P3)(hT:ain w)(hrb0:nT<=rb)(hR:Rdr w rb p err)(hw:RdT w 124 A n 3 (dA ws))(hl:∀x∈ws,x.2.2.length<=800000000)(hn:n<=1000000000):
  Calls Tryz.prog 126 #[.pointer (some ⟨rb,0,none⟩),.slice A n c] w (MB 61 2 w rb p ((af ws).foldl qR err) n (pW ((af ws).map jH))):=by
 have hwl:=hd0 hw.rd.aiE;have HR:=hd0 hR;have HW:=hd0 hw;have HL:=hd0 hl;clear hR hw hl;go_enter Tryz.func126,Tryz.ntmps126
 go_wp2;go_loopw [5,16] (fun v i wr=>∃k:Nat,k<=n/\i= .int .i64 k/\aia 61 2 w rb p (((af ws).take k).foldl qR err) k (pW (((af ws).take k).map jH)) v wr) (fun _ i _=>n - (intOf i).toNat)
 case atStart=>exact⟨0,nz _,rfl,aia.start HR.out (World.grownBy.refl _ _)⟩
 case round=>
  obtain⟨k,hk,rfl,A4,c4,rfl,ho,hr,hg⟩:=hrel;by_cases hlt:k<n
  ·obtain⟨b,o,x,y,z,rfl,hp,q1,q2,q3⟩:=wX HW.out HR.out hg hlt;have hz:z.length<=800000000:=HL.out _ (rU hp.out);have hs:=sG hp.out;have hs1:=hd0 (En jH hs);have hs2:=hd0 (zW qR err hs);have hr0:=hd0 hr;have HG:=hd0 hg;have hsz:=hg.size;have hrb:rb<wr.heap.size:=hr.lt;have hcs:Hid (pW (((af ws).take k).map jH++[jH z])=pW (((af ws).take k).map jH)++pW [jH z]):=by show _=_;simp[pW]
   rw[<-hs1.out] at hcs;generalize pW (((af ws).take k).map jH)=xs at*
   generalize ((af ws).take k).foldl qR err=er at*
   have hy:=nt (DY 58 z) hz;have hT0:=hT.grown hg (fun g e=>by cases e;exact hrb0);have HT1:Hid (∀nd,ain ((wr.alloc (.cells #[.int .i64 x,.int .i64 y,.string ⟨z.toArray⟩] 124)).drewN nd)):=fun nd=>hT0.below (below_drewN ((akl _ _).alloc (nr _) _) nd)
   have hc1:=hd0 (fun w=>JE w z 58 hz);have hop:Hid (∀w,ain w->_):=hd0 (fun w (h:ain w)=>QI w (cO 58 z) h.ops);have hes0:Hid (qR er z=if hasB 58 z then aG (if er=0/\qP (cO 58 z)=0 then 23 else er) (dI 58 z) else if er=0/\qP (cO 58 z)=0 then 23 else er):=rfl;have sZ:Hid (pW [jH z]=[.int .i64 (qP (cO 58 z)),.int .i64 (if hasB 58 z then aA (dI 58 z) else 0)]):=rfl;have hn0:=hd0 (fun w er h=>dK w rb p er (dI 58 z) h hy);generalize hopv:qP (cO 58 z)=opv at*
   clear hp hs hz hr hy hg hT0 hopv;by_cases ho0:opv=0
   ·have hok:Hid ((opv !=0)=false):=by show _=_;simp[ho0]
    have SN:(if er=0/\opv=0 then(23:Int) else er)=eC er 23:=by rw[eC];simp[ho0]
    rw[SN] at hes0;clear ho0 SN;cases hsb:hasB 58 z
    ·have hsm:Hid (hasB 58 z=false):=hsb;rw[hsb] at hes0 sZ;have hes:Hid (qR er z=eC er 23):=hes0.out;have hvs:Hid (pW [jH z]=[.int .i64 opv,.int .i64 0]):=sZ.out;clear hsb hes0 sZ;go_wp2_with (go_at_call 168;refine(hc1.out _).mono ?_;rintro e w1 ⟨rfl,nd,rfl⟩;rw[hsm.out])
     go_wp2_with (go_at_call 25;refine(hop.out _ (by exact HT1.out nd)).mono ?_;rintro e w1 ⟨rfl,rfl⟩;rw[hok.out])
     go_wp2_with fail
     refine(qy _ rb p er 23 (by exact(hr0.out.alloc _).drewN nd)).mono ?_;rintro e w2 ⟨rfl,hr2,hg2⟩;have rJ:wr.grownBy w2 (some rb):=bZ (lI (World.grownBy_alloc wr _ _) nd) hg2;have z2:=rJ.size;have zf:=hd0 rJ;have lm:=hd0 hr2;clear rJ hr2 hg2;go_wp2_with (at_builtin;refine lq Fb rfl (.tmp 43) (.tmp 45) rfl (w2.alloc (.cells #[.int .i64 opv,.int .i64 0] 61)) (w2.heap.size+1) (by simp) w.heap.size k c4 A4 xs #[.int .i64 opv,.int .i64 0] rfl rfl rfl (ho.kept (jX zf.out _) (bQ ho hr0.out (by decide))) (by simp[Value.oneCell']) (by omega) (by simp;omega) ?_;intro A5 c5 w4 fD hg4 _)
     go_roundw
     case rel=>exact⟨k+1,by omega,by simp,by rw[hs2.out,hes.out,hcs.out,hvs.out];exact aia.next ho hr0.out HG.out (lm.out.alloc _) (jX zf.out _) fD hg4 (by decide)⟩
     case measure=>simp[intOf];omega
    have hsm:Hid (hasB 58 z=true):=hsb;rw[hsb] at hes0 sZ;have hes:Hid (qR er z=aG (eC er 23) (dI 58 z)):=hes0.out;have hvs:Hid (pW [jH z]=[.int .i64 opv,.int .i64 (aA (dI 58 z))]):=sZ.out;have hn2:=hd0 (fun w h=>hn0.out w (eC er 23) h);generalize aG (eC er 23) (dI 58 z)=yO at*
    generalize aA (dI 58 z)=v2 at*
    clear hsb hes0 sZ;go_wp2_with (go_at_call 168;refine(hc1.out _).mono ?_;rintro e w1 ⟨rfl,nd,rfl⟩;rw[hsm.out])
    go_wp2_with (go_at_call 25;refine(hop.out _ (by exact HT1.out nd)).mono ?_;rintro e w1 ⟨rfl,rfl⟩;rw[hok.out])
    go_wp2_with fail
    refine(qy _ rb p er 23 (by exact(hr0.out.alloc _).drewN nd)).mono ?_;rintro e w2 ⟨rfl,hr2,hg2⟩;have rJ:wr.grownBy w2 (some rb):=bZ (lI (World.grownBy_alloc wr _ _) nd) hg2;have z2:=rJ.size;have zf:=hd0 rJ;have lm:=hd0 hr2;clear rJ hr2 hg2;go_wp2_with fail
    refine(hn2.out _ (by exact lm.out.alloc _)).mono ?_;rintro e w3 ⟨rfl,hr3,hg3⟩;have uH:wr.grownBy w3 (some rb):=bZ (jX zf.out _) hg3;have B2:Bk w3 w2.heap.size 61 #[.int .i64 opv,.int .i64 0]:=Bk.kept2 hg3 (Bk.new _ _ _) (by omega);have d0:w3.cell? ⟨w2.heap.size,0,none⟩=some (.int .i64 opv):=B2.cell 0;have d1:w3.cell? ⟨w2.heap.size,1,none⟩=some (.int .i64 0):=B2.cell 1;have g1:=B2.frozen 1;have z3:=B2.lt;have Az:=hd0 uH;have lG:=hd0 hr3;clear B2 uH hr3 hg3;go_wp2_with (at_builtin;refine lq Fb rfl (.tmp 43) (.tmp 45) rfl (w3.setCell ⟨w2.heap.size,1,none⟩ (.int .i64 v2)) w3.heap.size (by simp) w.heap.size k c4 A4 xs #[.int .i64 opv,.int .i64 v2] rfl rfl rfl (ho.kept (dL Az.out (.inr (by simp;omega)) _) (bQ ho hr0.out (by decide))) (by simp[Value.oneCell']) (by omega) (by simp;omega) ?_;intro A5 c5 w4 fD hg4 _)
    go_roundw
    case rel=>exact⟨k+1,by omega,by simp,by rw[hs2.out,hes.out,hcs.out,hvs.out];exact aia.next ho hr0.out HG.out (Bk.far lG.out (by simp;omega) _) (dL Az.out (.inr (by simp;omega)) _) fD hg4 (by decide)⟩
    case measure=>simp[intOf];omega
   have hok:Hid ((opv !=0)=true):=by show _=_;simpa using ho0
   have SN:(if er=0/\opv=0 then(23:Int) else er)=er:=if_neg (fun h=>ho0 h.2);rw[SN] at hes0;clear ho0 SN;cases hsb:hasB 58 z
   ·have hsm:Hid (hasB 58 z=false):=hsb;rw[hsb] at hes0 sZ;have hes:Hid (qR er z=er):=hes0.out;have hvs:Hid (pW [jH z]=[.int .i64 opv,.int .i64 0]):=sZ.out;clear hsb hes0 sZ;go_wp2_with (go_at_call 168;refine(hc1.out _).mono ?_;rintro e w1 ⟨rfl,nd,rfl⟩;rw[hsm.out])
    go_wp2_with (first
     |(go_at_call 25;refine(hop.out _ (by exact HT1.out nd)).mono ?_;rintro e w1 ⟨rfl,rfl⟩;rw[hok.out])
     |(at_builtin;refine lq Fb rfl (.tmp 43) (.tmp 45) rfl ((((wr.alloc (.cells #[.int .i64 x,.int .i64 y,.string ⟨z.toArray⟩] 124)).drewN nd)).alloc (.cells #[.int .i64 opv,.int .i64 0] 61)) (wr.heap.size+1+1) (by simp) w.heap.size k c4 A4 xs #[.int .i64 opv,.int .i64 0] rfl rfl rfl (ho.kept (jX (lI (World.grownBy_alloc wr _ _) nd) _) (bQ ho hr0.out (by decide))) (by simp[Value.oneCell']) (by omega) (by simp;omega) ?_;intro A5 c5 w4 fD hg4 _))
    go_roundw
    case rel=>exact⟨k+1,by omega,by simp,by rw[hs2.out,hes.out,hcs.out,hvs.out];exact aia.next ho hr0.out HG.out (((hr0.out.alloc _).drewN nd).alloc _) (jX (lI (World.grownBy_alloc wr _ _) nd) _) fD hg4 (by decide)⟩
    case measure=>simp[intOf];omega
   have hsm:Hid (hasB 58 z=true):=hsb;rw[hsb] at hes0 sZ;have hes:Hid (qR er z=aG er (dI 58 z)):=hes0.out;have hvs:Hid (pW [jH z]=[.int .i64 opv,.int .i64 (aA (dI 58 z))]):=sZ.out;have hn2:=hd0 (fun w h=>hn0.out w er h);generalize aG er (dI 58 z)=yO at*
   generalize aA (dI 58 z)=v2 at*
   clear hsb hes0 sZ;go_wp2_with (go_at_call 168;refine(hc1.out _).mono ?_;rintro e w1 ⟨rfl,nd,rfl⟩;rw[hsm.out])
   go_wp2_with (go_at_call 25;refine(hop.out _ (by exact HT1.out nd)).mono ?_;rintro e w1 ⟨rfl,rfl⟩;rw[hok.out])
   go_wp2_with fail
   refine(hn2.out _ (by exact((hr0.out.alloc _).drewN nd).alloc _)).mono ?_;rintro e w3 ⟨rfl,hr3,hg3⟩;have uH:wr.grownBy w3 (some rb):=bZ (jX (lI (World.grownBy_alloc wr _ _) nd) _) hg3;have B2:Bk w3 (wr.heap.size+1) 61 #[.int .i64 opv,.int .i64 0]:=Bk.kept2 hg3 (Bk.newAt _ _ (by simp)) (by simp;omega);have d0:w3.cell? ⟨wr.heap.size+1,0,none⟩=some (.int .i64 opv):=B2.cell 0;have d1:w3.cell? ⟨wr.heap.size+1,1,none⟩=some (.int .i64 0):=B2.cell 1;have g1:=B2.frozen 1;have z3:=B2.lt;have Az:=hd0 uH;have lG:=hd0 hr3;clear B2 uH hr3 hg3;go_wp2_with (at_builtin;refine lq Fb rfl (.tmp 43) (.tmp 45) rfl (w3.setCell ⟨wr.heap.size+1,1,none⟩ (.int .i64 v2)) w3.heap.size (by simp) w.heap.size k c4 A4 xs #[.int .i64 opv,.int .i64 v2] rfl rfl rfl (ho.kept (dL Az.out (.inr (by simp)) _) (bQ ho hr0.out (by decide))) (by simp[Value.oneCell']) (by omega) (by simp;omega) ?_;intro A5 c5 w4 fD hg4 _)
   go_roundw
   case rel=>exact⟨k+1,by omega,by simp,by rw[hs2.out,hes.out,hcs.out,hvs.out];exact aia.next ho hr0.out HG.out (Bk.far lG.out (by simp;omega) _) (dL Az.out (.inr (by simp)) _) fD hg4 (by decide)⟩
   case measure=>simp[intOf];omega
  obtain rfl:k=n:=by omega
  have ht:Hid ((af ws).take k=af ws):=by show _=_;exact akE (by rw[iF,hwl.out];exact nr _)
  rw[ht.out] at ho hr;go_wp2;go_ret
  exact⟨_,rfl,A4,c4,rfl,ho,hr,hg⟩
end
end Go.Proofs.YtkijckccfookeaaGreatDoor
