/- Lemmas. -/
import Derived.Test.YtkijckccfookeaaGreatDoorV11
set_option linter.unusedVariables false
set_option linter.unusedSimpArgs false
set_option maxRecDepth 100000
set_option maxHeartbeats 32000000
namespace Go.Proofs.YtkijckccfookeaaGreatDoor
open Go.RowKit
section
theorem aia.rdr {e size:Nat}{w wr:World}{rb p:Nat}{err:Int}{n:Nat}{xs:List Value}{v:Value}(h:aia e size w rb p err n xs v wr):Rdr wr rb p err:=by obtain⟨A,c,-,-,h,-⟩:=h;exact h
theorem aia.grown {e size:Nat}{w wr:World}{rb p:Nat}{err:Int}{n:Nat}{xs:List Value}{v:Value}(h:aia e size w rb p err n xs v wr):w.grownBy wr (some rb):=by obtain⟨A,c,-,-,-,h⟩:=h;exact h
theorem aia.after {e size:Nat}{w wr w1:World}{rb p:Nat}{err err':Int}{n:Nat}{xs:List Value}{v:Value}(h:aia e size w rb p err n xs v wr)(hr:Rdr w1 rb p err')(hg:wr.grownBy w1 (some rb))(hne:Jw≠e):aia e size w rb p err' n xs v w1:=by obtain⟨A,c,rfl,h1,h2,h3⟩:=h;exact⟨A,c,rfl,h1.kept hg (bQ h1 h2 hne),hr,bZ h3 hg⟩
def atB (t:B):Bool:=match t with|64::_=>true|_=>false
def pU (t:B):B:=match t with|64::r=>r|s=>s
theorem KT (t:B):(∃r,t=64::r/\pU t=r/\atB t=true)\/(pU t=t/\atB t=false/\∀r,t≠64::r):=by
 unfold pU atB;split
 ·exact .inl ⟨_,rfl,rfl,rfl⟩
 rename_i h;exact .inr ⟨rfl,rfl,h⟩
theorem pre_eq (t:B):Lib.trimPrefix t [64]=pU t/\Lib.hasPrefix t [64]=atB t:=by
 cases t with
 |nil=>exact⟨rfl,rfl⟩
 |cons c r=>
  by_cases hc:c=64
  ·subst hc;simp[Lib.trimPrefix,Lib.hasPrefix,pU,atB]
  rcases KT (c::r) with⟨r',h,_⟩|⟨h1,h2,_⟩
  ·injection h with h _
   exact absurd h hc
  rw[h1,h2];have hp:Lib.hasPrefix (c::r) [64]=false:=by simp only[Lib.hasPrefix,List.isPrefixOf,Bool.and_eq_false_iff,beq_eq_false_iff_ne,ne_eq];exact .inl (fun e=>hc e.symm)
  exact⟨by rw[Lib.trimPrefix,hp];rfl,hp⟩
theorem TL (w:World)(t:B):Calls Tryz.prog 169 #[.string ⟨t.toArray⟩,.string ⟨#[64]⟩] w fun e w'=>e= .returned (.tuple #[.string ⟨(pU t).toArray⟩,.bool (atB t)])/\w=w':=by obtain⟨e1,e2⟩:=pre_eq t;refine(Tryz.strings_CutPrefix ⟨t.toArray⟩ ⟨#[64]⟩ w).mono ?_;rintro e w' ⟨h1,h2⟩;refine⟨?_,h2.symm⟩;rw[h1,<-e1,<-e2]
def ik (gl:Gl)(cls:List (B×List Int))(er:Int)(acc:List Int)(t:B):Int×List Int:=if atB t then(match cls.lookup (pU t) with|some c=>(er,acc++c)|none=>(eC er 23,acc)) else(jB gl er t,acc++[fF gl t])
def aT (gl:Gl)(cls:List (B×List Int)):Int->List Int->List B->Int×List Int
 |er,acc,[]=>(er,acc)
 |er,acc,t::r=>if(ik gl cls er acc t).1≠0 then ik gl cls er acc t else if 1000<(ik gl cls er acc t).2.length then(eC (ik gl cls er acc t).1 2,(ik gl cls er acc t).2) else aT gl cls (ik gl cls er acc t).1 (ik gl cls er acc t).2 r
theorem Gf {gl:Gl}{cls:List (B×List Int)}{er er1:Int}{acc acc1:List Int}{t:B}{r:List B}(h:ik gl cls er acc t=(er1,acc1))(h1:er1≠0):aT gl cls er acc (t::r)=(er1,acc1):=by rw[aT,h,if_pos h1]
theorem DJ {gl:Gl}{cls:List (B×List Int)}{er:Int}{acc acc1:List Int}{t:B}{r:List B}(h:ik gl cls er acc t=(0,acc1))(h1:1000<acc1.length):aT gl cls er acc (t::r)=(2,acc1):=by rw[aT,h,if_neg (by simp),if_pos h1];rfl
theorem MQ {gl:Gl}{cls:List (B×List Int)}{er:Int}{acc acc1:List Int}{t:B}{r:List B}(h:ik gl cls er acc t=(0,acc1))(h1:acc1.length<=1000):aT gl cls er acc (t::r)=aT gl cls 0 acc1 r:=by rw[aT,h,if_neg (by simp),if_neg (by simp only;omega)]
def Dt (w:World):Bs:=fun b=>∃cs t,Bk w b t cs/\lJ t=true
structure PAt (w:World)(p gm cm:Nat)(gl:Gl)(cls:List (B×List Int)):Prop where
 par:∃cs,Bk w p jq cs/\cs[10]? =some (.map (some gm))/\cs[11]? =some (.map (some cm))
 gmp:ah0 lU w gm (fun t=>(gl.lookup t).map fun n=> .int .i64 (n:Nat))
 cl:aiF w (Dt w) cm cls
theorem PSt.at {w:World}{Bd p gm cm:Nat}{gl:Gl}{s:PS}{rv:Rows}{K:Nat}(h:PSt w Bd p gm cm gl s rv K):PAt w p gm cm gl s.cls:=by refine⟨⟨_,h.par,rfl,rfl⟩,h.gmp,?_⟩;obtain⟨f,h1,h2⟩:=h.cls;refine⟨f,h1,fun t=>(h2 t).imp id fun⟨l,A,c,e1,e2,e3,e4⟩=>⟨l,A,c,e1,e2,e3.mono ahT.ok fun b ⟨cs,t,g1,g2,_⟩=>⟨cs,t,g1,g2⟩,e4⟩⟩
theorem PAt.gm {w:World}{p gm cm:Nat}{gl:Gl}{cls:List (B×List Int)}(h:PAt w p gm cm gl cls):aiX w p gm gl:=by obtain⟨cs,h1,h2,h3⟩:=h.par;exact⟨(h1.cell 10).trans h2,h.gmp⟩
theorem PAt.keep {w w':World}{p gm cm:Nat}{gl:Gl}{cls:List (B×List Int)}(h:PAt w p gm cm gl cls)(hk:∀(b:Nat) t cs,Bk w b t cs->lJ t=true\/t=jq->w'.heap[b]? =w.heap[b]?)(hm:∀(b:Nat) es c,w.heap[b]? =some (Obj.map es c)->w'.heap[b]? =w.heap[b]?):PAt w' p gm cm gl cls:=by
 obtain⟨cs,h1,h2,h3⟩:=h.par;obtain⟨f,g1,g2⟩:=h.cl;obtain⟨e1,c1,m1⟩:=h.gmp.isMap;obtain⟨e2,c2,m2⟩:=g1.isMap;refine⟨⟨cs,h1.keep (hk _ _ _ h1 (.inr rfl)),h2,h3⟩,h.gmp.keep (hm _ _ _ m1),⟨f,g1.keep (hm _ _ _ m2),fun t=>(g2 t).imp id fun⟨l,A,c,e1,e2,e3,e4⟩=>⟨l,A,c,e1,e2,?_,e4⟩⟩⟩;have hs:Same (Dt w) w w':=fun b ⟨cs,t,g1,g2⟩=>hk b t cs g1 (.inl g2)
 exact(e3.keep ahT.ok hs).mono ahT.ok fun b ⟨cs,t,g1,g2⟩=>⟨cs,t,g1.keep (hk b t cs g1 (.inl g2)),g2⟩
theorem PAt.grown {w w':World}{p gm cm rb:Nat}{err:Int}{gl:Gl}{cls:List (B×List Int)}(h:PAt w p gm cm gl cls)(hr:Rdr w rb p err)(hg:w.grownBy w' (some rb)):PAt w' p gm cm gl cls:=by
 refine h.keep (fun b t cs hb ht=>hg.block b hb.lt fun e=> ?_) (fun b es c hb=>hg.block b (akp.1 hb).1 fun e=> ?_)
 ·injection e with e
  subst e;have:=(dR hb hr).1;subst this;rcases ht with ht|ht
  ·revert ht;decide
  revert ht;decide
 injection e with e
 subst e;unfold Rdr Bk at hr;rw[hb] at hr;cases hr
theorem Qm {w:World}{S:Bs}{A:Option Addr}{l:List Int}(h:Sl ahT 1 w S A l){Bd:Nat}(hS:∀b,S b->b<Bd):Rd w Bd A l.length 1 (aW l):=by refine⟨by simp[aW],fun h0=> ?_⟩;obtain⟨cells,hf,hc⟩:=h;obtain⟨b,o,e,hb,hk⟩:=hc h0;refine⟨b,o,e,hS b hb,fun j u hu=> ?_⟩;refine hk j u ?_;simp only[aW,akO,Option.map_eq_some_iff] at hu;obtain⟨x,hx,rfl⟩:=hu;obtain⟨cs,hr,hl,hcs⟩:=hf.2 j x hx;obtain⟨rfl,-⟩:=hr;have:=hcs 0 _ rfl;show cells[j]? =some (.int .i64 x);simpa using this
theorem BQ (a b:List Int):aW (a++b)=aW a++aW b:=by simp[aW]
theorem su (l:List Int):∀u∈aW l,u.oneCell'=true:=aav l
def rQ (w:World)(rb p:Nat)(res:Int×List Int)(e:Ending)(w':World):Prop:=MB 3 1 w rb p res.1 res.2.length (aW res.2) e w'
theorem QV {ws:List P3}{k:Nat}{x y:Int}{z:B}(h:ws[k]? =some (x,y,z)):(af ws).drop k=z::(af ws).drop (k+1):=by
 obtain⟨hk,hg⟩:=akn.1 h;rw[List.drop_eq_getElem_cons (by rw[iF];exact hk)];congr 1
 simp[af,hg]
theorem O8 (w:World):(zeroValue 22).run Tryz.prog w= .ok (.slice none 0 0) w:=by kernel_rfl
theorem Ut (w:World)(rb p gm cm:Nat)(gl:Gl)(cls:List (B×List Int))(err:Int)(A:Option Addr)(n c:Nat)(ws:List P3)(hR:Rdr w rb p err)(hP:PAt w p gm cm gl cls)(hw:RdT w 124 A n 3 (dA ws))(hn:n<=1000000000):
  Calls Tryz.prog 128 #[.pointer (some ⟨rb,0,none⟩),.slice A n c] w (rQ w rb p (aT gl cls err [] (af ws))):=by
 have hwl:=hd0 hw.rd.aiE;have HR:=hd0 hR;have HW:=hd0 hw;have HP:=hd0 hP;clear hR hw hP;go_enter Tryz.func128,Tryz.ntmps128
 go_wp2;go_step3;go_wp2;go_step3;go_wp2;go_loopw [5,14] (fun v i wr=>∃k:Nat,k<=n/\i= .int .i64 k/\∃er acc,Hid (aT gl cls err [] (af ws)=aT gl cls er acc ((af ws).drop k))/\List.length acc<=1000/\aia 3 1 w rb p er acc.length (aW acc) v wr) (fun _ i _=>n - (intOf i).toNat)
 case atStart=>exact⟨0,nz _,rfl,err,[],rfl,by simp,aia.start HR.out (World.grownBy.refl _ _)⟩
 case round=>
  obtain⟨k,hk,rfl,er,acc,hrun,hacc,A4,c4,rfl,ho,hr,hg⟩:=hrel;by_cases hlt:k<n
  ·obtain⟨b,o,x,y,z,rfl,hp,q1,q2,q3⟩:=wX HW.out HR.out hg hlt;have hrun2:=hrun.out;rw[QV hp.out] at hrun2;have hP1:=(HP.out.grown HR.out hg).keep (w':=wr.alloc (.cells #[.int .i64 x,.int .i64 y,.string ⟨z.toArray⟩] 124)) (fun b t cs hb _=>Below.heap_alloc _ _ _ hb.lt) (fun b es c hb=>Below.heap_alloc _ _ _ (akp.1 hb).1);have hr0:=hd0 hr;have hg0:wr.grownBy (wr.alloc (.cells #[.int .i64 x,.int .i64 y,.string ⟨z.toArray⟩] 124)) (some rb):=World.grownBy_alloc _ _ _;have JX:=hd0 hg0;have HG:=hd0 hg;have hsz:=hg.size;have hrb:rb<wr.heap.size:=hr.lt;have hpc:=hd0 (fun w=>TL w z);have k0:wr.cell? ⟨rb,0,none⟩=some (.pointer (some ⟨p,0,none⟩)):=hr.cell 0;have k1:wr.cell? ⟨rb,1,none⟩=some (.int .i64 er):=hr.cell 1;have k11:wr.cell? ⟨p,11,none⟩=some (.map (some cm)):=by obtain⟨cs,g1,g2,g3⟩:=(HP.out.grown HR.out hg).par;exact(g1.cell 11).trans g3
   have hpb:p<wr.heap.size:=World.block_lt_of_cell? wr ⟨p,11,none⟩ k11;obtain⟨f,hf1,hf2⟩:=hP1.cl;have hlk:=hf1.ai2 Tryz.underlying114 Tryz.underlying9 (O8 _) (pU z);change (Instr.lookup 114 (.map (some cm)) (.string ⟨(pU z).toArray⟩) true).run Tryz.prog (wr.alloc (.cells #[.int .i64 x,.int .i64 y,.string ⟨z.toArray⟩] 124))=_ at hlk;have JO:=hd0 (fun h=>xP (wr.alloc (.cells #[.int .i64 x,.int .i64 y,.string ⟨z.toArray⟩] 124)) rb p gm gl er z h hP1.gm);have hwd:ik gl cls er acc z=if atB z then(match cls.lookup (pU z) with|some c=>(er,acc++c)|none=>(eC er 23,acc)) else(jB gl er z,acc++[fF gl z]):=rfl
   cases hat:atB z with
   |false=>
    rw[hat] at hwd;have hwd:ik gl cls er acc z=(jB gl er z,acc++[fF gl z]):=hwd;have Ht:=hd0 hat;obtain⟨vc,ok,hlk2⟩:∃vc ok,(Instr.lookup 114 (.map (some cm)) (.string ⟨(pU z).toArray⟩) true).run Tryz.prog (wr.alloc (.cells #[.int .i64 x,.int .i64 y,.string ⟨z.toArray⟩] 124))= .ok (.tuple #[vc,.bool ok]) (wr.alloc (.cells #[.int .i64 x,.int .i64 y,.string ⟨z.toArray⟩] 124)):=⟨_,_,hlk⟩
    have hcs:Hid (aW (acc++[fF gl z])=aW acc++[.int .i64 (fF gl z)]):=BQ _ _;have hll:Hid ((acc++[fF gl z]).length=acc.length+1):=by show _=_;simp
    generalize jB gl er z=er1 at*
    generalize fF gl z=vz at*
    have hxl:∀A5 c5 w2 er9,(aia 3 1 w rb p er9 (acc++[vz]).length (aW (acc++[vz])) (.slice A5 (acc.length+1) c5) w2)=(aia 3 1 w rb p er9 (acc.length+1) (aW acc++[.int .i64 vz]) (.slice A5 (acc.length+1) c5) w2):=fun A5 c5 w2 er9=>by rw[hll.out,hcs.out]
    have HX:=hd0 hxl;clear hlk hf2 hf1 hat hxl;by_cases he:er1=0
    ·by_cases hm:1000<acc.length+1
     ·skip
      subst he;have hres:=hd0 (hrun2.trans (DJ hwd (by rw[hll.out];exact hm)));have e3:((1000:Int)<(acc.length:Int)+1):=by omega
      clear hrun2 hwd hP1 hp hrun hr hg hg0;go_wp2_with (first
       |(go_at_call 169;refine(hpc.out _).mono ?_;rintro e w0 ⟨rfl,rfl⟩;rw[Ht.out])
       |(go_at_call 132;refine(JO.out (by exact hr0.out.alloc _)).mono ?_;rintro e w1 ⟨rfl,hr1,hg1⟩;have hg2:=bZ JX.out hg1;have z1:=hg2.size)
       |(at_builtin;refine lq qK rfl (.tmp 41) (.tmp 46) rfl w1 _ rfl w.heap.size acc.length c4 A4 (aW acc) #[.int .i64 vz] rfl rfl rfl (ho.kept hg2 (bQ ho hr0.out (by decide))) (by simp[Value.oneCell']) (by omega) (by omega) ?_;intro A5 c5 w2 ho2 hg3 _;have hRR:=aia.next ho hr0.out HG.out hr1 hg2 ho2 hg3 (by decide);have nU:Rdr w2 rb p _:=hRR.rdr;have hgw:=hRR.grown;have k3:=Bk.cell nU 1;simp only[List.getElem?_toArray,akz,akw] at k3;have HRR:=hd0 hRR;have JF:=hd0 nU;clear hRR nU)
       |(go_at_call 164;refine(qy w2 rb p 0 2 JF.out).mono ?_;rintro e w3 ⟨rfl,hr3,hg4⟩))
      try rw[Exit.noGoto_ret]
      go_ret
      unfold rQ;rw[hres.out];refine⟨.slice A5 (acc.length+1) c5,rfl,?_⟩;show aia _ _ _ _ _ _ (acc++[vz]).length (aW (acc++[vz])) _ _;rw[HX.out];exact HRR.out.after hr3 hg4 (by decide)
     skip
     subst he;have hres:=hd0 (hrun2.trans (MQ hwd (by rw[hll.out];omega)));have e3:¬((1000:Int)<(acc.length:Int)+1):=by omega
     clear hrun2 hwd hP1 hp hrun hr hg hg0;go_wp2_with (first
      |(go_at_call 169;refine(hpc.out _).mono ?_;rintro e w0 ⟨rfl,rfl⟩;rw[Ht.out])
      |(go_at_call 132;refine(JO.out (by exact hr0.out.alloc _)).mono ?_;rintro e w1 ⟨rfl,hr1,hg1⟩;have hg2:=bZ JX.out hg1;have z1:=hg2.size)
      |(at_builtin;refine lq qK rfl (.tmp 41) (.tmp 46) rfl w1 _ rfl w.heap.size acc.length c4 A4 (aW acc) #[.int .i64 vz] rfl rfl rfl (ho.kept hg2 (bQ ho hr0.out (by decide))) (by simp[Value.oneCell']) (by omega) (by omega) ?_;intro A5 c5 w2 ho2 hg3 _;have hRR:=aia.next ho hr0.out HG.out hr1 hg2 ho2 hg3 (by decide);have nU:Rdr w2 rb p _:=hRR.rdr;have hgw:=hRR.grown;have k3:=Bk.cell nU 1;simp only[List.getElem?_toArray,akz,akw] at k3;have HRR:=hd0 hRR;have JF:=hd0 nU;clear hRR nU))
     go_roundw
     case rel=>exact⟨k+1,by omega,by simp,0,acc++[vz],hres,by rw[hll.out];omega,by rw[HX.out];exact HRR.out⟩
     case measure=>simp[intOf];omega
    skip
    have hres:=hd0 (hrun2.trans (Gf hwd he));have e1:(er1==0)=false:=by simpa using he
    have e2:(er1 !=0)=true:=by simpa using he
    clear hrun2 hwd he hP1 hp hrun hr hg hg0;go_wp2_with (first
     |(go_at_call 169;refine(hpc.out _).mono ?_;rintro e w0 ⟨rfl,rfl⟩;rw[Ht.out])
     |(go_at_call 132;refine(JO.out (by exact hr0.out.alloc _)).mono ?_;rintro e w1 ⟨rfl,hr1,hg1⟩;have hg2:=bZ JX.out hg1;have z1:=hg2.size)
     |(at_builtin;refine lq qK rfl (.tmp 41) (.tmp 46) rfl w1 _ rfl w.heap.size acc.length c4 A4 (aW acc) #[.int .i64 vz] rfl rfl rfl (ho.kept hg2 (bQ ho hr0.out (by decide))) (by simp[Value.oneCell']) (by omega) (by omega) ?_;intro A5 c5 w2 ho2 hg3 _;have hRR:=aia.next ho hr0.out HG.out hr1 hg2 ho2 hg3 (by decide);have nU:Rdr w2 rb p _:=hRR.rdr;have hgw:=hRR.grown;have k3:=Bk.cell nU 1;simp only[List.getElem?_toArray,akz,akw] at k3;have HRR:=hd0 hRR;have JF:=hd0 nU;clear hRR nU))
    try rw[Exit.noGoto_ret]
    go_ret
    unfold rQ;rw[hres.out];refine⟨.slice A5 (acc.length+1) c5,rfl,?_⟩;show aia _ _ _ _ _ _ (acc++[vz]).length (aW (acc++[vz])) _ _;rw[HX.out];exact HRR.out
   |true=>
    rw[hat] at hwd;have hwd:ik gl cls er acc z=(match cls.lookup (pU z) with|some c=>(er,acc++c)|none=>(eC er 23,acc)):=hwd;have Ht:=hd0 hat;rcases hf2 (pU z) with⟨g1,g2⟩|⟨l,A9,c9,g1,g2,g3,g4⟩
    ·rw[g1] at hwd;have hwd:ik gl cls er acc z=(eC er 23,acc):=hwd;rw[g2] at hlk;have hlk:(Instr.lookup 114 (.map (some cm)) (.string ⟨(pU z).toArray⟩) true).run Tryz.prog (wr.alloc (.cells #[.int .i64 x,.int .i64 y,.string ⟨z.toArray⟩] 124))= .ok (.tuple #[.slice none 0 0,.bool false]) _:=hlk;have he:eC er 23≠0:=by unfold eC;split<;>omega
     have hres:=hd0 (hrun2.trans (Gf hwd he));have hfl:=hd0 (fun h=>qy (wr.alloc (.cells #[.int .i64 x,.int .i64 y,.string ⟨z.toArray⟩] 124)) rb p er 23 h);generalize eC er 23=er1 at*
     have e1:(er1==0)=false:=by simpa using he
     have e2:(er1 !=0)=true:=by simpa using he
     clear hrun2 hwd he hP1 hp hrun hr hg hg0 g1 g2 hat hf1;go_wp2_with (first
      |(go_at_call 169;refine(hpc.out _).mono ?_;rintro e w0 ⟨rfl,rfl⟩;rw[Ht.out])
      |(go_at_call 164;refine(hfl.out (by exact hr0.out.alloc _)).mono ?_;rintro e w2 ⟨rfl,hr1,hg1⟩;have hg2:=bZ JX.out hg1;have k3:=Bk.cell hr1 1;simp only[List.getElem?_toArray,akz,akw] at k3;have jV:=hd0 hr1;have zf:=hd0 hg2;clear hr1 hg2 hg1))
     try rw[Exit.noGoto_ret]
     go_ret
     unfold rQ;rw[hres.out];exact⟨_,rfl,A4,c4,rfl,ho.kept zf.out (bQ ho hr0.out (by decide)),jV.out,bZ HG.out zf.out⟩
    rw[g1] at hwd;have hwd:ik gl cls er acc z=(er,acc++l):=hwd;rw[g2] at hlk;have hlk:(Instr.lookup 114 (.map (some cm)) (.string ⟨(pU z).toArray⟩) true).run Tryz.prog (wr.alloc (.cells #[.int .i64 x,.int .i64 y,.string ⟨z.toArray⟩] 124))= .ok (.tuple #[.slice A9 l.length c9,.bool true]) _:=hlk;have hrd:=Qm g3 (Bd:=(wr.alloc (.cells #[.int .i64 x,.int .i64 y,.string ⟨z.toArray⟩] 124)).heap.size) (fun b ⟨cs,t,hb,_⟩=>hb.lt);have hcs:Hid (aW (acc++l)=aW acc++aW l):=BQ _ _;have hll:Hid ((acc++l).length=acc.length+l.length):=by show _=_;simp
    have hxl:∀A5 c5 w2 er9,(aia 3 1 w rb p er9 (acc++l).length (aW (acc++l)) (.slice A5 (acc.length+l.length) c5) w2)=(aia 3 1 w rb p er9 (acc.length+l.length) (aW acc++aW l) (.slice A5 (acc.length+l.length) c5) w2):=fun A5 c5 w2 er9=>by rw[hll.out,hcs.out]
    have HX:=hd0 hxl;have EN:=hd0 hrd;clear g1 g2 g3 hat hf1 hxl hrd;by_cases he:er=0
    ·by_cases hm:1000<acc.length+l.length
     ·skip
      subst he;have hres:=hd0 (hrun2.trans (DJ hwd (by rw[hll.out];exact hm)));have e3:((1000:Int)<(acc.length:Int)+(l.length:Int)):=by omega
      clear hrun2 hwd hP1 hp hrun hr hg hg0;go_wp2_with (first
       |(go_at_call 169;refine(hpc.out _).mono ?_;rintro e w0 ⟨rfl,rfl⟩;rw[Ht.out])
       |(at_builtin;refine Jt qK rfl (.tmp 50) (.tmp 51) rfl (wr.alloc (.cells #[.int .i64 x,.int .i64 y,.string ⟨z.toArray⟩] 124)) w.heap.size acc.length c4 A4 (aW acc) _ A9 l.length c9 (aW l) rfl rfl (ho.alloc _) EN.out (su l) (by omega) (by simp;omega) ?_;intro A5 c5 w2 ho2 hg3 _;have hRR:=aia.next ho hr0.out HG.out (hr0.out.alloc _) JX.out ho2 hg3 (by decide);have nU:Rdr w2 rb p _:=hRR.rdr;have k3:=Bk.cell nU 1;simp only[List.getElem?_toArray,akz,akw] at k3;have HRR:=hd0 hRR;have JF:=hd0 nU;clear hRR nU)
       |(go_at_call 164;refine(qy w2 rb p 0 2 JF.out).mono ?_;rintro e w3 ⟨rfl,hr3,hg4⟩))
      try rw[Exit.noGoto_ret]
      go_ret
      unfold rQ;rw[hres.out];refine⟨.slice A5 (acc.length+l.length) c5,rfl,?_⟩;show aia _ _ _ _ _ _ (acc++l).length (aW (acc++l)) _ _;rw[HX.out];exact HRR.out.after hr3 hg4 (by decide)
     skip
     subst he;have hres:=hd0 (hrun2.trans (MQ hwd (by rw[hll.out];omega)));have e3:¬((1000:Int)<(acc.length:Int)+(l.length:Int)):=by omega
     clear hrun2 hwd hP1 hp hrun hr hg hg0;go_wp2_with (first
      |(go_at_call 169;refine(hpc.out _).mono ?_;rintro e w0 ⟨rfl,rfl⟩;rw[Ht.out])
      |(at_builtin;refine Jt qK rfl (.tmp 50) (.tmp 51) rfl (wr.alloc (.cells #[.int .i64 x,.int .i64 y,.string ⟨z.toArray⟩] 124)) w.heap.size acc.length c4 A4 (aW acc) _ A9 l.length c9 (aW l) rfl rfl (ho.alloc _) EN.out (su l) (by omega) (by simp;omega) ?_;intro A5 c5 w2 ho2 hg3 _;have hRR:=aia.next ho hr0.out HG.out (hr0.out.alloc _) JX.out ho2 hg3 (by decide);have nU:Rdr w2 rb p _:=hRR.rdr;have k3:=Bk.cell nU 1;simp only[List.getElem?_toArray,akz,akw] at k3;have HRR:=hd0 hRR;have JF:=hd0 nU;clear hRR nU))
     go_roundw
     case rel=>exact⟨k+1,by omega,by simp,0,acc++l,hres,by rw[hll.out];omega,by rw[HX.out];exact HRR.out⟩
     case measure=>simp[intOf];omega
    skip
    have hres:=hd0 (hrun2.trans (Gf hwd he));have e1:(er==0)=false:=by simpa using he
    have e2:(er !=0)=true:=by simpa using he
    clear hrun2 hwd he hP1 hp hrun hr hg hg0;go_wp2_with (first
     |(go_at_call 169;refine(hpc.out _).mono ?_;rintro e w0 ⟨rfl,rfl⟩;rw[Ht.out])
     |(at_builtin;refine Jt qK rfl (.tmp 50) (.tmp 51) rfl (wr.alloc (.cells #[.int .i64 x,.int .i64 y,.string ⟨z.toArray⟩] 124)) w.heap.size acc.length c4 A4 (aW acc) _ A9 l.length c9 (aW l) rfl rfl (ho.alloc _) EN.out (su l) (by omega) (by simp;omega) ?_;intro A5 c5 w2 ho2 hg3 _;have hRR:=aia.next ho hr0.out HG.out (hr0.out.alloc _) JX.out ho2 hg3 (by decide);have nU:Rdr w2 rb p _:=hRR.rdr;have k3:=Bk.cell nU 1;simp only[List.getElem?_toArray,akz,akw] at k3;have HRR:=hd0 hRR;have JF:=hd0 nU;clear hRR nU))
    try rw[Exit.noGoto_ret]
    go_ret
    unfold rQ;rw[hres.out];refine⟨.slice A5 (acc.length+l.length) c5,rfl,?_⟩;show aia _ _ _ _ _ _ (acc++l).length (aW (acc++l)) _ _;rw[HX.out];exact HRR.out
  obtain rfl:k=n:=by omega
  have hend:aT gl cls err [] (af ws)=(er,acc):=by rw[hrun.out,akU (by rw[iF,hwl.out];exact nr _)];rfl
  have aec:=hd0 hend;clear hend;go_wp2
  try rw[Exit.noGoto_ret]
  go_ret
  unfold rQ;rw[aec.out];exact⟨_,rfl,A4,c4,rfl,ho,hr,hg⟩
theorem Zq (u:Nat)(h:u<=9223372036854775808):(jR u).length<=19:=VQ 18 u (by show u<10000000000000000000;omega)
theorem SL (q:Nat):(q:Int).tmod 10=((q % 10:Nat):Int):=by rw[Int.tmod_eq_emod_of_nonneg (by omega)];omega
theorem abZ (q:Nat):(-(q:Int)).tmod 10= -((q % 10:Nat):Int):=by rw[Int.neg_tmod,SL]
theorem Tz (q:Nat):(q:Int).tdiv 10=((q / 10:Nat):Int):=by rw[Int.tdiv_eq_ediv_of_nonneg (by omega)];omega
theorem aco (q:Nat):(-(q:Int)).tdiv 10= -((q / 10:Nat):Int):=by rw[Int.neg_tdiv,Tz]
def sLen (v:Value):Nat:=match v with| .string b=>b.data.size|_=>0
theorem Gv {U q:Nat}{out:B}(h:(out=[]/\q=U)\/(out≠[]/\jR U=pJ q++out))(hq:out=[]\/0<q):mW q::out≠[]/\jR U=pJ (q / 10)++(mW q::out):=by
 refine⟨by simp,?_⟩;rcases h with⟨rfl,rfl⟩|⟨h1,h2⟩
 ·exact PU q
 have h0:0<q:=by
  rcases hq with hq|hq
  ·exact absurd hq h1
  exact hq
 rw[h2,XG q h0];simp
theorem Pi {U:Nat}{out:B}(h:(out=[]/\0=U)\/(out≠[]/\jR U=pJ 0++out))(hn:out≠[]):jR U=out:=by
 rcases h with⟨rfl,_⟩|⟨_,h2⟩
 ·exact absurd rfl hn
 rw[h2,pJ,if_pos rfl,akX]
theorem Ib {U q:Nat}{out:B}(h:(out=[]/\q=U)\/(out≠[]/\jR U=pJ q++out))(hU:U<=9223372036854775808):out.length<=19:=by
 rcases h with⟨rfl,_⟩|⟨_,h2⟩
 ·simp
 have h1:=congrArg List.length h2;have h3:=Zq U hU;rw[la] at h1;omega
theorem QM (w:World)(U:Nat)(hU:U<=9223372036854775807):Calls Tryz.prog 99 #[.int .i64 U] w fun e w'=>e= .returned (.string ⟨(jR U++[32]).toArray⟩)/\Below w.heap.size w w':=by
 have hn0:decide ((U:Int)<0)=false:=by simp
 have HU:Hid (U<=9223372036854775807):=hd0 hU;go_enter Tryz.func99,Tryz.ntmps99
 go_wp2;go_loopw [3,4] (fun s k wr=>∃(q:Nat) (out:B),k= .int .i64 q/\s= .string ⟨out.toArray⟩/\Hid ((out=[]/\q=U)\/(out≠[]/\jR U=pJ q++out))/\q<=9223372036854775807/\Below w.heap.size w wr) (fun s k _=>(intOf k).natAbs+(1 - sLen s))
 case atStart=>exact⟨U,[],rfl,rfl,hd0 (.inl ⟨rfl,rfl⟩),HU.out,akl _ _⟩
 case round=>
  obtain⟨q,out,rfl,rfl,hdec,hq,hbl⟩:=hrel;have hol:=Ib hdec.out (by omega);have ht:=SL q;have htd:=Tz q;by_cases h0:q=0
  ·subst h0;by_cases hn:out=[]
   ·subst hn;have hd2:=hd0 (Gv hdec.out (.inl rfl));have cv:=fun w=>Js w 48 0 (by simp)
    have hap:(ByteArray.mk #[mW 0])++⟨#[]⟩=⟨#[mW 0]⟩:=rW [mW 0] [];go_wp2;go_roundw
    case rel=>exact⟨0,[mW 0],by simp,rfl,hd0 (.inr hd2.out),by omega,hbl.alloc hbl.size _⟩
    case measure=>simp[intOf,sLen]
   have hz:=hd0 (Pi hdec.out hn);have hap:(ByteArray.mk out.toArray)++⟨#[32]⟩=⟨(out++[32]).toArray⟩:=rW out [32];have e0:(out==[])=false:=by simpa using hn
   clear hn;go_wp2;go_ret
   exact⟨by rw[hz.out];first|rfl|simp,hbl⟩
  have hd2:=hd0 (Gv hdec.out (.inr (by omega)));have cv:=fun w=>Js w (48+(q:Int) % 10) q rfl
  have hap:(ByteArray.mk #[mW q])++⟨out.toArray⟩=⟨(mW q::out).toArray⟩:=rW [mW q] out;have hk:((q:Int) !=0)=true:=by simp;omega
  go_wp2;go_roundw
  case rel=>exact⟨q / 10,mW q::out,by simp,rfl,hd0 (.inr hd2.out),by omega,hbl.alloc hbl.size _⟩
  case measure=>simp[intOf,sLen];omega
theorem Ze (q:Nat):(-(q:Int)).tmod 10= -((q:Int) % 10):=by rw[abZ];omega
theorem Zr (q:Nat):(-(q:Int)).tdiv 10= -((q:Int) / 10):=by rw[aco];omega
theorem P8 (w:World)(U:Nat)(h1:1<=U)(hU:U<=9223372036854775808):Calls Tryz.prog 99 #[.int .i64 (-(U:Int))] w fun e w'=>e= .returned (.string ⟨(45::(jR U++[32])).toArray⟩)/\Below w.heap.size w w':=by
 have hn0:decide (0<U)=true:=by simp;omega
 have HU:Hid (U<=9223372036854775808):=hd0 hU;have H1:Hid (1<=U):=hd0 h1;go_enter Tryz.func99,Tryz.ntmps99
 go_wp2;go_loopw [3,4] (fun s k wr=>∃(q:Nat) (out:B),k= .int .i64 (-(q:Int))/\s= .string ⟨out.toArray⟩/\Hid ((out=[]/\q=U)\/(out≠[]/\jR U=pJ q++out))/\q<=9223372036854775808/\Below w.heap.size w wr) (fun s k _=>(intOf k).natAbs)
 case atStart=>exact⟨U,[],rfl,rfl,hd0 (.inl ⟨rfl,rfl⟩),HU.out,akl _ _⟩
 case round=>
  obtain⟨q,out,rfl,rfl,hdec,hq,hbl⟩:=hrel;have hol:=Ib hdec.out HU.out;have ht:=Ze q;have htd:=Zr q;by_cases h0:q=0
  ·subst h0
   have hn:out≠[]:=by
    rintro rfl;rcases hdec.out with⟨_,h⟩|⟨h,_⟩
    ·have:=H1.out;omega
    exact h rfl
   have hz:=hd0 (Pi hdec.out hn);have afb:(ByteArray.mk #[45])++⟨out.toArray⟩=⟨(45::out).toArray⟩:=rW [45] out;have hl1:(45::out).length<=20:=by rw[aF];omega
   obtain⟨o2,ho2⟩:∃x,(45::out:B)=x:=⟨_,rfl⟩
   rw[ho2] at afb hl1;have hap:(ByteArray.mk o2.toArray)++⟨#[32]⟩=⟨(o2++[32]).toArray⟩:=rW o2 [32];have e0:(out==[])=false:=by simpa using hn
   have HO:=hd0 ho2;clear hn ht htd ho2;go_wp2;go_ret
   exact⟨by rw[hz.out,<-HO.out];first|rfl|simp,hbl⟩
  have hd2:=hd0 (Gv hdec.out (.inr (by omega)));have cv:=fun w=>Js w (48+(q:Int) % 10) q rfl
  have hap:(ByteArray.mk #[mW q])++⟨out.toArray⟩=⟨(mW q::out).toArray⟩:=rW [mW q] out;have hk:((-(q:Int)) !=0)=true:=by simp;omega
  have hk2:((q:Int) !=0)=true:=by simp;omega
  by_cases hm:(q:Int) % 10=0
  ·have e1:decide ((q:Int) % 10=0)=true:=by simpa using hm
   have e2:decide (0<(q:Int) % 10)=false:=by simp;omega
   have cv0:=fun w=>Js w 48 q (by omega)
   rw[hm] at ht;clear hm cv e1 e2;go_wp2;go_roundw
   case rel=>exact⟨q / 10,mW q::out,by simp,rfl,hd0 (.inr hd2.out),by omega,hbl.alloc hbl.size _⟩
   case measure=>simp[intOf];omega
  have e2:decide (0<(q:Int) % 10)=true:=by simp;omega
  have b1:0<=(q:Int) % 10/\(q:Int) % 10<10:=by omega
  obtain⟨b1,b2⟩:=b1;clear hm;go_wp2;go_roundw
  case rel=>exact⟨q / 10,mW q::out,by simp,rfl,hd0 (.inr hd2.out),by omega,hbl.alloc hbl.size _⟩
  case measure=>simp[intOf];omega
theorem ay (w:World)(n:Int)(h:I64 n):Calls Tryz.prog 99 #[.int .i64 n] w fun e w'=>e= .returned (.string ⟨(ah n).toArray⟩)/\Below w.heap.size w w':=by
 unfold I64 at h;by_cases h0:n<0
 ·have e1:n= -((n.natAbs:Nat):Int):=by omega
  have e2:ah n=45::(jR n.natAbs++[32]):=by rw[ah,ag,Lib.itoa,if_pos h0,MI];rfl
  rw[e2]
  conv=>arg 3;rw[e1]
  exact P8 w n.natAbs (by omega) (by omega)
 have e1:n=((n.toNat:Nat):Int):=by omega
 have e2:ah n=jR n.toNat++[32]:=by rw[ah,ag,Lib.itoa,if_neg h0,MI]
 rw[e2]
 conv=>arg 3;rw[e1]
 exact QM w n.toNat (by omega)
theorem JK (w:World)(b:Bool):Calls Tryz.prog 148 #[.bool b] w fun e w'=>e= .returned (.string ⟨(uX b).toArray⟩)/\Below w.heap.size w w':=by
 cases b
 ·go_enter Tryz.func148,Tryz.ntmps148
  go_wp2;go_ret
  exact⟨rfl,akl _ _⟩
 go_enter Tryz.func148,Tryz.ntmps148
 go_wp2;go_ret
 exact⟨rfl,akl _ _⟩
def Yk (cm b:Nat):Obj->Prop
 | .cells _ t _=>lJ t=false/\t≠jq
 | .map _ _=>b≠cm
 |_=>True
structure KQ (cm:Nat)(w w':World):Prop where
 same:∀(b:Nat) (o:Obj),w.heap[b]? =some o->Yk cm b o->w'.heap[b]? =some o
 size:w.heap.size<=w'.heap.size
theorem KQ.refl (cm:Nat)(w:World):KQ cm w w:=⟨fun _ _ h _=>h,nr _⟩
theorem KQ.trans {cm:Nat}{a b c:World}(h:KQ cm a b)(k:KQ cm b c):KQ cm a c:=⟨fun x o hx ho=>k.same x o (h.same x o hx ho) ho,nt h.size k.size⟩
theorem KQ.below {cm:Nat}{w w':World}(h:Below w.heap.size w w'):KQ cm w w':=⟨fun b o hb _=>(h.block b (akp.1 hb).1).trans hb,h.size⟩
theorem KQ.row {cm:Nat}{w w':World}{row:Option Nat}(hg:w.grownBy w' row)(hr:∀g,row=some g->∃o,w.heap[g]? =some o/\¬Yk cm g o):KQ cm w w':=
 ⟨fun b o hb ho=>(hg.block b (akp.1 hb).1 fun e=>by
  obtain⟨o',h1,h2⟩:=hr b e.symm;rw[hb] at h1;injection h1 with h1
  subst h1;exact h2 ho).trans hb,hg.size⟩
theorem KQ.live {cm:Nat}{w w':World}{Bd:Nat}{rv:Rows}(h:Live w Bd rv){i:Nat}(hi:i<15)(hg:w.grownBy w' (rv i).v.ownBlock):KQ cm w w':=
 KQ.row hg fun g e=>by
  obtain⟨cur,hb⟩:=aV (h.own i hi) e;exact⟨_,hb,fun hk=>by
   have:=hk.1;rw[um] at this;cases this⟩
theorem KQ.par {cm:Nat}{w:World}{p:Nat}{cs:Array Value}(h:Bk w p jq cs)(j:Nat)(u:Value):KQ cm w (w.setCell ⟨p,j,none⟩ u):=
 KQ.row (dC w ⟨p,j,none⟩ u) fun g e=>by
  injection e with e
  subst e;exact⟨_,h,fun hk=>hk.2 rfl⟩
theorem KQ.rdT {cm:Nat}{w w':World}(h:KQ cm w w'){t:TypeId}{A:Option Addr}{n size:Nat}{cs:List Value}(hr:RdT w t A n size cs)(h1:lJ t=false)(h2:t≠jq):RdT w' t A n size cs:=
 ⟨hr.1,fun hn=>by
  obtain⟨b,o,cur,e,hb,hc⟩:=hr.2 hn;exact⟨b,o,cur,e,h.same b _ hb ⟨h1,h2⟩,hc⟩⟩
theorem KQ.bk {cm:Nat}{w w':World}(h:KQ cm w w'){g:Nat}{t:TypeId}{cs:Array Value}(hb:Bk w g t cs)(h1:lJ t=false)(h2:t≠jq):Bk w' g t cs:=h.same g _ hb ⟨h1,h2⟩
def ahS (w:World)(Bd p gm cm:Nat)(gl:Gl)(K:Nat)(r:Ans)(e:Ending)(w':World):Prop:=
 Below Bd w w'/\match r with
  | .ok s'=>e= .returned (.int .i64 0)/\KQ cm w w'/\∃rv',PSt w' Bd p gm cm gl s' rv' K
  | .error c=>e= .returned (.int .i64 c)
theorem ahS.bad {w w':World}{Bd p gm cm:Nat}{gl:Gl}{K:Nat}{r:Ans}{c:Int}(hr:r= .error c)(hb:Below Bd w w'):ahS w Bd p gm cm gl K r (.returned (.int .i64 c)) w':=by subst hr;exact⟨hb,rfl⟩
theorem ahS.good {w w':World}{Bd p gm cm:Nat}{gl:Gl}{K:Nat}{r:Ans}{s':PS}{rv':Rows}(hr:r= .ok s')(hb:Below Bd w w')(hk:KQ cm w w')(h:PSt w' Bd p gm cm gl s' rv' K):ahS w Bd p gm cm gl K r (.returned (.int .i64 0)) w':=by subst hr;exact⟨hb,rfl,hk,rv',h⟩
theorem ahS.fin {w w':World}{Bd p gm cm:Nat}{gl:Gl}{K:Nat}{s':PS}{rv':Rows}{err:Int}{r:Ans}(hr:r=fin err s')(hb:Below Bd w w')(hk:KQ cm w w')(h:PSt w' Bd p gm cm gl s' rv' K):ahS w Bd p gm cm gl K r (.returned (.int .i64 err)) w':=by
 unfold Proofs.YtkijckccfookeaaGreatDoor.fin at hr;split at hr
 ·rename_i h0;subst h0;exact ahS.good hr hb hk h
 exact ahS.bad hr hb
theorem iE {e t size:Nat}(E:ElT e t size)(ty:TypeId)(w1:World)(base n c:Nat)(A:Option Addr)(xs:List Value)(news:Array Value)(hnl:news.size=size)(hown:w1.ownsRow base e size (.slice A n c) n xs)(h1:∀u∈news.toList,u.oneCell'=true)(hn:n<=10000000000)(hb:base<=w1.heap.size):
  ∃A' c' w',(Builtin.append_ #[t,t] ty #[.slice A n c,.slice (some ⟨w1.heap.size,0,none⟩) 1 1]).run Tryz.prog ((w1.alloc (.cells news e)).drew)= .ok (.slice A' (n+1) c') w'/\w'.ownsRow base e size (.slice A' (n+1) c') (n+1) (xs++news.toList)/\w1.grownBy w' (Value.slice A n c).ownBlock/\Loc w1 (.slice A n c) (.slice A' (n+1) c'):=by
 obtain⟨A',c',w',hrun,h2,h3,h4⟩:=BO E ty ((w1.alloc (.cells news e)).drew) base n c A xs (hown.alloc _).drew (w1.heap.size+1) (some ⟨w1.heap.size,0,none⟩) 1 1 news.toList (Rd.drew (Rd.newAt _ _ rfl news e 1 size (by omega))) h1 (by omega) (by simp;omega);refine⟨A',c',w',hrun,h2,⟨h3.os,h3.tape,h3.output,nt (by simp) h3.size,fun i hi hne=> ?_⟩,h4.imp id fun h5 g hg=>by have:=h5 g hg;simp at this;omega⟩;exact(h3.block i (by simp;omega) hne).trans (Below.heap_alloc _ _ _ hi)
theorem DW {e t size:Nat}(E:ElT e t size)(ty:TypeId)(w1:World)(base n c:Nat)(A:Option Addr)(xs:List Value)(Bd:Nat)(A2:Option Addr)(m c2:Nat)(news:List Value)(hown:w1.ownsRow base e size (.slice A n c) n xs)(hr:Rd w1 Bd A2 m size news)(h1:∀u∈news,u.oneCell'=true)(hn:n+m<=100000000000)(hb:base<=w1.heap.size):
  ∃A' c' w',(Builtin.append_ #[t,t] ty #[.slice A n c,.slice A2 m c2]).run Tryz.prog w1= .ok (.slice A' (n+m) c') w'/\w'.ownsRow base e size (.slice A' (n+m) c') (n+m) (xs++news)/\w1.grownBy w' (Value.slice A n c).ownBlock/\Loc w1 (.slice A n c) (.slice A' (n+m) c'):=
 BO E ty w1 base n c A xs hown Bd A2 m c2 news hr h1 hn hb
section
variable {w w2:World} {Bd p gm cm:Nat} {gl:Gl} {s s':PS} {rv:Rows} {K:Nat}
theorem fU (h:∀j,j<15->(rv j).n<=K){i:Nat}{r:RV}{K':Nat}(hK:K<=K')(hn:r.n<=K'):∀j,j<15->(upd rv i r j).n<=K':=by
 intro j hj;by_cases hji:j=i
 ·subst hji;rw[upd_same];exact hn
 rw[iY _ _ hji];exact nt (h j hj) hK
theorem PSt.push (h:PSt w Bd p gm cm gl s rv K){i:Nat}(hi:i<15){v':Value}{n':Nat}{xs':List Value}(hg:w.grownBy w2 (rv i).v.ownBlock)(ho:w2.ownsRow Bd (kT i) (kS i) v' n' xs')(hl:Loc w (rv i).v v')
  (hf:FD w2 (Fz w2 (upd rv i ⟨v',n',xs'⟩)) (upd rv i ⟨v',n',xs'⟩) s'.f) (hc:s'.cls=s.cls) {j:Nat} (hcs:(dV s rv gm cm).setIfInBounds j v'=dV s' (upd rv i ⟨v',n',xs'⟩) gm cm) {K':Nat} (hK:K<=K') (hn:n'<=K'):
  PSt (w2.setCell ⟨p,j,none⟩ v') Bd p gm cm gl s' (upd rv i ⟨v',n',xs'⟩) K'/\KQ cm w (w2.setCell ⟨p,j,none⟩ v'):=by
 obtain⟨h1,h2,h3,h4,h5⟩:=h.row hi (r:=⟨v',n',xs'⟩) hg ho hl;refine⟨PSt.ajn h1 h2 hf h4 h.glI (by rw[hc];exact h5) (fU h.few hK hn) h.low j v' hcs,(KQ.live h.live hi hg).trans (KQ.par h1 j v')⟩
theorem PSt.aiA (h:PSt w Bd p gm cm gl s rv K){i:Nat}(hi:i<15)(hg:w.grownBy w2 (rv i).v.ownBlock)(j:Nat)(u:Value)(hB:Bd<=w.heap.size):Below Bd w (w2.setCell ⟨p,j,none⟩ u):=by refine((akl Bd w).grown hg hB (fun g e=>((h.live.own i hi).lt g e).1)).setCell ?_ _;exact h.low.1
theorem PSt.slice (h:PSt w Bd p gm cm gl s rv K){i:Nat}(hi:i<15):∃A c,(rv i).v= .slice A (rv i).n c:=gX (h.live.own i hi)
theorem PSt.size (h:PSt w Bd p gm cm gl s rv K):Bd<=w.heap.size:=by have:=h.par.lt;have:=h.low.1;omega
end
end
section
def Lw (w:World):Bs:=fun b=>b<w.heap.size
theorem Sl.lw {α:Type}{R:Rel α}(ok:R.Ok){size:Nat}{w w':World}{A:Option Addr}{xs:List α}(h:Sl R size w (Lw w) A xs)(hb:Below w.heap.size w w'):Sl R size w' (Lw w') A xs:=(h.keep ok (fun b hb'=>hb.block b hb')).mono ok (fun b (hb':b<_)=>aku hb' hb.size)
theorem dS {α:Type}{f:α->B}{l:List α}{k:Nat}{x:α}(h:l[k]? =some x):(l.take (k+1)).flatMap f=(l.take k).flatMap f++f x:=by rw[ak2,h,akT];simp
theorem Jc {α:Type}(f:α->B)(l:List α)(k:Nat):((l.take k).flatMap f).length<=(l.flatMap f).length:=by
 conv=>rhs;rw[<-akS k l]
 rw[akT,la];omega
theorem gV {α:Type}{f:α->B}{l:List α}{k:Nat}{x:α}(h:l[k]? =some x):((l.take k).flatMap f).length+(f x).length<=(l.flatMap f).length:=by have:=Jc f l (k+1);rw[dS h,la] at this;omega
theorem bi (a b:B)(h:a.length+b.length<=100000000000000)(w':World):(Op.stringOp .add ⟨a.toArray⟩ ⟨b.toArray⟩).run Tryz.prog w'= .ok (.string ⟨(a++b).toArray⟩) w':=by rw[run_string_add_sum w' _ _ (by simp[ByteArray.size];omega),ByteArray.mk_append_mk]
theorem fA (n:Int):1<=(ah n).length:=by unfold ah;simp
theorem MC (l:List Int):1<=(rowB l).length:=by have:=fA l.length;unfold rowB;rw[la];omega
theorem Ju (i:Ins):1<=(pR i).length:=by have:=fA i.op;unfold pR;rw[la];omega
theorem Ir (l:List Ins):1<=(fE l).length:=by have:=fA l.length;unfold fE;rw[la];omega
theorem eY {α:Type}(f:α->B)(h:∀x,1<=(f x).length)(l:List α):l.length<=(l.flatMap f).length:=by
 induction l with
 |nil=>simp
 |cons a r ih=>have:=h a;rw[akD,la,aF];omega
theorem jW {α:Type}(f:α->B)(h:∀x,1<=(f x).length)(l:List α)(hl:(l.flatMap f).length<=100000000000000):I64 (l.length:Int):=by have:=eY f h l;exact⟨by omega,by omega⟩
theorem aK {F:Nat}{args:Array Value}{W:World}{v:Value}(h:∀w',Below W.heap.size W w'->Calls Tryz.prog F args w' fun e w''=>e= .returned v/\Below w'.heap.size w' w'')(x:WIn (fun v=>Below W.heap.size W v)):
  Calls Tryz.prog F args x.w fun e w''=>e= .returned v/\∃y:WIn (fun v=>Below W.heap.size W v),w''=y.w:=
 (h x.w x.ok).mono fun _ w'' ⟨h1,h2⟩=>⟨h1,⟨w'',x.ok.trans (h2.mono x.ok.size)⟩,rfl⟩
theorem ax {W:World}{b o:Nat}{u:Value}(h:W.cell? ⟨b,o,none⟩=some u)(x:WIn (fun v=>Below W.heap.size W v)):x.w.cell? ⟨b,o,none⟩=some u:=by have hb:=World.block_lt_of_cell? W _ h;exact((aj x.ok).1 _ _ hb).trans h
theorem KI (w:World)(A:Option Addr)(c:Nat)(l:List Ins)(h:Sl ah5 2 w (Lw w) A l)(hlen:(fE l).length<=100000000000000):
  Calls Tryz.prog 103 #[.slice A l.length c] w fun e w'=>e= .returned (.string ⟨(fE l).toArray⟩)/\Below w.heap.size w w':=by
 have H:=hd0 h;unfold fE at hlen ⊢;rw[la] at hlen;have zk:I64 (l.length:Int):=jW pR Ju l (by omega);have hll:l.length<=100000000000000:=nt (eY pR Ju l) (by omega);have HD0:=hd0 (fun w'=>ay w' (l.length:Int) zk);clear h zk;generalize hD:ah (l.length:Int)=D at*
 clear hD;go_enter Tryz.func103,Tryz.ntmps103
 go_wp2_with fail
 refine(HD0.out _).mono ?_;rintro e w1 ⟨rfl,hb1⟩;have HB1:=hd0 hb1;have H1:=hd0 (H.out.lw ah5.ok hb1);clear hb1 HD0 H;go_wp2_with fail
 go_loopw [3,4] (fun s i wr=>∃k:Nat,k<=l.length/\i= .int .i64 k/\s= .string ⟨(D++(l.take k).flatMap pR).toArray⟩/\Below w1.heap.size w1 wr) (fun _ i _=>l.length - (intOf i).toNat)
 case atStart=>exact⟨0,nz _,rfl,by simp,akl _ _⟩
 case round=>
  obtain⟨k,hk,rfl,rfl,hb⟩:=hrel;have hz:=HB1.out.size;by_cases hlt:k<l.length
  ·obtain⟨b,o,x,rfl,-,hx,q0,q1,i0,i1⟩:=(H1.out.lw ah5.ok hb).ins hlt;have hsn:Hid (D++(l.take (k+1)).flatMap pR=D++(l.take k).flatMap pR++ah x.op++ah x.a):=by show _=_;rw[dS hx.out];simp[pR]
   have hf:=gV (f:=pR) hx.out;rw[pR,la] at hf;have hs1:(D++(l.take k).flatMap pR).length+(ah x.op).length+(ah x.a).length<=100000000000000:=by rw[la];omega
   have HA:=hd0 (aK (W:=wr) (fun w' _=>ay w' x.op i0));have HB:=hd0 (aK (W:=wr) (fun w' _=>ay w' x.a i1));have c0:=ax q0;have c1:=ax q1;clear hx hf i0 i1 q0 q1;generalize D++(l.take k).flatMap pR=S at*
   generalize ah x.op=D1 at*
   generalize ah x.a=D2 at*
   have r1:=bi S D1 (by omega);have hs2:(S++D1).length+D2.length<=100000000000000:=by rw[la];omega
   have r2:=bi (S++D1) D2 hs2;generalize hS2:S++D1++D2=S2 at*
   generalize S++D1=S1 at*
   have HX:=hd0 hb;clear hb hs1 hs2 hS2;go_wp2_with fail
   refine bP (fun v=>Below wr.heap.size wr v) (by kernel_rfl) (by kernel_rfl) ((akl wr.heap.size wr).drew) ?_;have bK:Nonempty (WIn (fun v=>Below wr.heap.size wr v)):=⟨⟨_,((akl wr.heap.size wr).drew)⟩⟩
   repeat(go_big_quiet_step (first|with_reducible exact HA.out _|with_reducible exact HB.out _))
   refine wpQuiet_nil ?_;intro _ hw';obtain⟨xq,hw''⟩:=hw';subst hw'';go_wp2_with fail
   go_roundw
   case rel=>exact⟨k+1,by omega,by simp,by rw[hsn.out],HX.out.trans (xq.ok.mono HX.out.size)⟩
   case measure=>simp[intOf];omega
  obtain rfl:k=l.length:=by omega
  rw[akr];go_wp2_with fail
  go_ret
  exact⟨rfl,HB1.out.trans (hb.mono hz)⟩
theorem xC (w:World)(A:Option Addr)(c:Nat)(l:List Int)(h:Sl ahT 1 w (Lw w) A l)(hlen:(rowB l).length<=100000000000000):
  Calls Tryz.prog 102 #[.slice A l.length c] w fun e w'=>e= .returned (.string ⟨(rowB l).toArray⟩)/\Below w.heap.size w w':=by
 have H:=hd0 h;unfold rowB at hlen ⊢;rw[la] at hlen;have zk:I64 (l.length:Int):=jW ah fA l (by omega);have hll:l.length<=100000000000000:=nt (eY ah fA l) (by omega);have HD0:=hd0 (fun w'=>ay w' (l.length:Int) zk);clear h zk;generalize hD:ah (l.length:Int)=D at*
 clear hD;go_enter Tryz.func102,Tryz.ntmps102
 go_wp2_with fail
 refine(HD0.out _).mono ?_;rintro e w1 ⟨rfl,hb1⟩;have HB1:=hd0 hb1;have H1:=hd0 (H.out.lw ahT.ok hb1);clear hb1 HD0 H;go_wp2_with fail
 go_loopw [3,4] (fun s i wr=>∃k:Nat,k<=l.length/\i= .int .i64 k/\s= .string ⟨(D++(l.take k).flatMap ah).toArray⟩/\Below w1.heap.size w1 wr) (fun _ i _=>l.length - (intOf i).toNat)
 case atStart=>exact⟨0,nz _,rfl,by simp,akl _ _⟩
 case round=>
  obtain⟨k,hk,rfl,rfl,hb⟩:=hrel;have hz:=HB1.out.size;by_cases hlt:k<l.length
  ·obtain⟨b,o,x,rfl,-,hx,q0,i0⟩:=(H1.out.lw ahT.ok hb).int hlt;have hsn:Hid (D++(l.take (k+1)).flatMap ah=D++(l.take k).flatMap ah++ah x):=by show _=_;rw[dS hx.out];simp
   have hf:=gV (f:=ah) hx.out;have hs1:(D++(l.take k).flatMap ah).length+(ah x).length<=100000000000000:=by rw[la];omega
   have HA:=hd0 (ay wr x i0);clear hx hf;generalize D++(l.take k).flatMap ah=S at*
   generalize ah x=D1 at*
   have rS1:∀w',(Op.stringOp .add ⟨S.toArray⟩ ⟨D1.toArray⟩).run Tryz.prog w'= .ok (.string ⟨(S++D1).toArray⟩) w':=bi S D1 (by omega);have lS1:(S++D1).length<=S.length+D1.length:=bf _ _;generalize hS1:S++D1=S1 at*
   have Tn:=hd0 hS1.symm;clear hS1;have HX:=hd0 hb;clear hb hs1;go_wp2_with fail
   refine HA.out.mono ?_;rintro e w2 ⟨rfl,hb2⟩;have HX2:Hid (Below w1.heap.size w1 w2):=hd0 (HX.out.trans (hb2.mono HX.out.size));clear hb2 HA;go_wp2_with fail
   go_roundw
   case rel=>exact⟨k+1,by omega,by simp,by rw[hsn.out,Tn.out],HX2.out⟩
   case measure=>simp[intOf];omega
  obtain rfl:k=l.length:=by omega
  rw[akr];go_wp2_with fail
  go_ret
  exact⟨rfl,HB1.out.trans (hb.mono hz)⟩
theorem DR (w:World)(A:Option Addr)(c:Nat)(l:List (List Int))(h:Sl ahV 1 w (Lw w) A l)(hlen:(jZ l).length<=100000000000000):
  Calls Tryz.prog 149 #[.slice A l.length c] w fun e w'=>e= .returned (.string ⟨(jZ l).toArray⟩)/\Below w.heap.size w w':=by
 have H:=hd0 h;unfold jZ at hlen ⊢;rw[la] at hlen;have zk:I64 (l.length:Int):=jW rowB MC l (by omega);have hll:l.length<=100000000000000:=nt (eY rowB MC l) (by omega);have HD0:=hd0 (fun w'=>ay w' (l.length:Int) zk);clear h zk;generalize hD:ah (l.length:Int)=D at*
 clear hD;go_enter Tryz.func149,Tryz.ntmps149
 go_wp2_with fail
 refine(HD0.out _).mono ?_;rintro e w1 ⟨rfl,hb1⟩;have HB1:=hd0 hb1;have H1:=hd0 (H.out.lw ahV.ok hb1);clear hb1 HD0 H;go_wp2_with fail
 go_loopw [3,4] (fun s i wr=>∃k:Nat,k<=l.length/\i= .int .i64 k/\s= .string ⟨(D++(l.take k).flatMap rowB).toArray⟩/\Below w1.heap.size w1 wr) (fun _ i _=>l.length - (intOf i).toNat)
 case atStart=>exact⟨0,nz _,rfl,by simp,akl _ _⟩
 case round=>
  obtain⟨k,hk,rfl,rfl,hb⟩:=hrel;have hz:=HB1.out.size;by_cases hlt:k<l.length
  ·obtain⟨b,o,x,A1,c1,rfl,-,hx,q0,h0⟩:=(H1.out.lw ahV.ok hb).row hlt;have hsn:Hid (D++(l.take (k+1)).flatMap rowB=D++(l.take k).flatMap rowB++rowB x):=by show _=_;rw[dS hx.out];simp
   have hf:=gV (f:=rowB) hx.out;have hs1:(D++(l.take k).flatMap rowB).length+(rowB x).length<=100000000000000:=by rw[la];omega
   have HA:=hd0 (xC wr A1 c1 x h0 (by omega));clear hx hf;generalize D++(l.take k).flatMap rowB=S at*
   generalize rowB x=D1 at*
   have rS2:∀w',(Op.stringOp .add ⟨S.toArray⟩ ⟨D1.toArray⟩).run Tryz.prog w'= .ok (.string ⟨(S++D1).toArray⟩) w':=bi S D1 (by omega);have lS2:(S++D1).length<=S.length+D1.length:=bf _ _;generalize hS2:S++D1=S2 at*
   have HS2:=hd0 hS2.symm;clear hS2;have HX:=hd0 hb;clear hb hs1;go_wp2_with fail
   refine HA.out.mono ?_;rintro e w2 ⟨rfl,hb2⟩;have HX2:Hid (Below w1.heap.size w1 w2):=hd0 (HX.out.trans (hb2.mono HX.out.size));clear hb2 HA;go_wp2_with fail
   go_roundw
   case rel=>exact⟨k+1,by omega,by simp,by rw[hsn.out,HS2.out],HX2.out⟩
   case measure=>simp[intOf];omega
  obtain rfl:k=l.length:=by omega
  rw[akr];go_wp2_with fail
  go_ret
  exact⟨rfl,HB1.out.trans (hb.mono hz)⟩
end
end Go.Proofs.YtkijckccfookeaaGreatDoor
