/- Lemmas. -/
import Derived.Test.YtkijckccfookeaaGreatDoorU13
set_option linter.unusedVariables false
set_option linter.unusedSimpArgs false
set_option maxRecDepth 100000
set_option maxHeartbeats 32000000
namespace Go.Proofs.YtkijckccfookeaaGreatDoor
open Go.RowKit
section
theorem ak9.rdr {e size:Nat}{w wr:World}{rb p:Nat}{err:Int}{n:Nat}{xs:List Value}{v:Value}(h:ak9 e size w rb p err n xs v wr):Rdr wr rb p err:=by obtain⟨A,c,-,-,h,-⟩:=h;exact h
theorem ak9.grown {e size:Nat}{w wr:World}{rb p:Nat}{err:Int}{n:Nat}{xs:List Value}{v:Value}(h:ak9 e size w rb p err n xs v wr):w.grownBy wr (some rb):=by obtain⟨A,c,-,-,-,h⟩:=h;exact h
theorem ak9.after {e size:Nat}{w wr w1:World}{rb p:Nat}{err err':Int}{n:Nat}{xs:List Value}{v:Value}(h:ak9 e size w rb p err n xs v wr)(hr:Rdr w1 rb p err')(hg:wr.grownBy w1 (some rb))(hne:MM≠e):ak9 e size w rb p err' n xs v w1:=by obtain⟨A,c,rfl,h1,h2,h3⟩:=h;exact⟨A,c,rfl,h1.kept hg (bY h1 h2 hne),hr,df h3 hg⟩
def atB (t:B):Bool:=match t with|64::_=>true|_=>false
def qw (t:B):B:=match t with|64::r=>r|s=>s
theorem MX (t:B):(∃r,t=64::r/\qw t=r/\atB t=true)\/(qw t=t/\atB t=false/\∀r,t≠64::r):=by
 unfold qw atB;split
 ·exact .inl ⟨_,rfl,rfl,rfl⟩
 rename_i h;exact .inr ⟨rfl,rfl,h⟩
theorem pre_eq (t:B):Lib.trimPrefix t [64]=qw t/\Lib.hasPrefix t [64]=atB t:=by
 cases t with
 |nil=>exact⟨rfl,rfl⟩
 |cons c r=>
  by_cases hc:c=64
  ·subst hc;simp[Lib.trimPrefix,Lib.hasPrefix,qw,atB]
  rcases MX (c::r) with⟨r',h,_⟩|⟨h1,h2,_⟩
  ·injection h with h _
   exact absurd h hc
  rw[h1,h2];have hp:Lib.hasPrefix (c::r) [64]=false:=by simp only[Lib.hasPrefix,List.isPrefixOf,Bool.and_eq_false_iff,beq_eq_false_iff_ne,ne_eq];exact .inl (fun e=>hc e.symm)
  exact⟨by rw[Lib.trimPrefix,hp];rfl,hp⟩
theorem XQ (w:World)(t:B):Calls Tryz.prog 169 #[.string ⟨t.toArray⟩,.string ⟨#[64]⟩] w fun e w'=>e= .returned (.tuple #[.string ⟨(qw t).toArray⟩,.bool (atB t)])/\w=w':=by obtain⟨e1,e2⟩:=pre_eq t;refine(Tryz.strings_CutPrefix ⟨t.toArray⟩ ⟨#[64]⟩ w).mono ?_;rintro e w' ⟨h1,h2⟩;refine⟨?_,h2.symm⟩;rw[h1,<-e1,<-e2]
def ik (gl:Gl)(cls:List (B×List Int))(er:Int)(acc:List Int)(t:B):Int×List Int:=if atB t then(match cls.lookup (qw t) with|some c=>(er,acc++c)|none=>(eC er 23,acc)) else(jM gl er t,acc++[fP gl t])
def aY (gl:Gl)(cls:List (B×List Int)):Int->List Int->List B->Int×List Int
 |er,acc,[]=>(er,acc)
 |er,acc,t::r=>if(ik gl cls er acc t).1≠0 then ik gl cls er acc t else if 1000<(ik gl cls er acc t).2.length then(eC (ik gl cls er acc t).1 2,(ik gl cls er acc t).2) else aY gl cls (ik gl cls er acc t).1 (ik gl cls er acc t).2 r
theorem Iu {gl:Gl}{cls:List (B×List Int)}{er er1:Int}{acc acc1:List Int}{t:B}{r:List B}(h:ik gl cls er acc t=(er1,acc1))(h1:er1≠0):aY gl cls er acc (t::r)=(er1,acc1):=by rw[aY,h,if_pos h1]
theorem EW {gl:Gl}{cls:List (B×List Int)}{er:Int}{acc acc1:List Int}{t:B}{r:List B}(h:ik gl cls er acc t=(0,acc1))(h1:1000<acc1.length):aY gl cls er acc (t::r)=(2,acc1):=by rw[aY,h,if_neg (by simp),if_pos h1];rfl
theorem NJ {gl:Gl}{cls:List (B×List Int)}{er:Int}{acc acc1:List Int}{t:B}{r:List B}(h:ik gl cls er acc t=(0,acc1))(h1:acc1.length<=1000):aY gl cls er acc (t::r)=aY gl cls 0 acc1 r:=by rw[aY,h,if_neg (by simp),if_neg (by simp only;omega)]
def Dt (w:World):Bs:=fun b=>∃cs t,Bk w b t cs/\lK t=true
structure PAt (w:World)(p gm cm:Nat)(gl:Gl)(cls:List (B×List Int)):Prop where
 par:∃cs,Bk w p jy cs/\cs[10]? =some (.map (some gm))/\cs[11]? =some (.map (some cm))
 gmp:akW mi w gm (fun t=>(gl.lookup t).map fun n=> .int .i64 (n:Nat))
 cl:alJ w (Dt w) cm cls
theorem PSt.at {w:World}{Bd p gm cm:Nat}{gl:Gl}{s:PS}{rv:Rows}{K:Nat}(h:PSt w Bd p gm cm gl s rv K):PAt w p gm cm gl s.cls:=by refine⟨⟨_,h.par,rfl,rfl⟩,h.gmp,?_⟩;obtain⟨f,h1,h2⟩:=h.cls;refine⟨f,h1,fun t=>(h2 t).imp id fun⟨l,A,c,e1,e2,e3,e4⟩=>⟨l,A,c,e1,e2,e3.mono akL.ok fun b ⟨cs,t,g1,g2,_⟩=>⟨cs,t,g1,g2⟩,e4⟩⟩
theorem PAt.gm {w:World}{p gm cm:Nat}{gl:Gl}{cls:List (B×List Int)}(h:PAt w p gm cm gl cls):al0 w p gm gl:=by obtain⟨cs,h1,h2,h3⟩:=h.par;exact⟨(h1.cell 10).trans h2,h.gmp⟩
theorem PAt.keep {w w':World}{p gm cm:Nat}{gl:Gl}{cls:List (B×List Int)}(h:PAt w p gm cm gl cls)(hk:∀(b:Nat) t cs,Bk w b t cs->lK t=true\/t=jy->w'.heap[b]? =w.heap[b]?)(hm:∀(b:Nat) es c,w.heap[b]? =some (Obj.map es c)->w'.heap[b]? =w.heap[b]?):PAt w' p gm cm gl cls:=by
 obtain⟨cs,h1,h2,h3⟩:=h.par;obtain⟨f,g1,g2⟩:=h.cl;obtain⟨e1,c1,m1⟩:=h.gmp.isMap;obtain⟨e2,c2,m2⟩:=g1.isMap;refine⟨⟨cs,h1.keep (hk _ _ _ h1 (.inr rfl)),h2,h3⟩,h.gmp.keep (hm _ _ _ m1),⟨f,g1.keep (hm _ _ _ m2),fun t=>(g2 t).imp id fun⟨l,A,c,e1,e2,e3,e4⟩=>⟨l,A,c,e1,e2,?_,e4⟩⟩⟩;have hs:Same (Dt w) w w':=fun b ⟨cs,t,g1,g2⟩=>hk b t cs g1 (.inl g2)
 exact(e3.keep akL.ok hs).mono akL.ok fun b ⟨cs,t,g1,g2⟩=>⟨cs,t,g1.keep (hk b t cs g1 (.inl g2)),g2⟩
theorem PAt.grown {w w':World}{p gm cm rb:Nat}{err:Int}{gl:Gl}{cls:List (B×List Int)}(h:PAt w p gm cm gl cls)(hr:Rdr w rb p err)(hg:w.grownBy w' (some rb)):PAt w' p gm cm gl cls:=by
 refine h.keep (fun b t cs hb ht=>hg.block b hb.lt fun e=> ?_) (fun b es c hb=>hg.block b (anx.1 hb).1 fun e=> ?_)
 ·injection e with e
  subst e;have:=(bU hb hr).1;subst this;rcases ht with ht|ht
  ·revert ht;decide
  revert ht;decide
 injection e with e
 subst e;unfold Rdr Bk at hr;rw[hb] at hr;cases hr
theorem Vh {w:World}{S:Bs}{A:Option Addr}{l:List Int}(h:Sl akL 1 w S A l){Bd:Nat}(hS:∀b,S b->b<Bd):Rd w Bd A l.length 1 (aH l):=by refine⟨by simp[aH],fun h0=> ?_⟩;obtain⟨cells,hf,hc⟩:=h;obtain⟨b,o,e,hb,hk⟩:=hc h0;refine⟨b,o,e,hS b hb,fun j u hu=> ?_⟩;refine hk j u ?_;simp only[aH,anX,Option.map_eq_some_iff] at hu;obtain⟨x,hx,rfl⟩:=hu;obtain⟨cs,hr,hl,hcs⟩:=hf.2 j x hx;obtain⟨rfl,-⟩:=hr;have:=hcs 0 _ rfl;show cells[j]? =some (.int .i64 x);simpa using this
theorem Du (a b:List Int):aH (a++b)=aH a++aH b:=by simp[aH]
theorem uA (l:List Int):∀u∈aH l,u.oneCell'=true:=ad1 l
def ut (w:World)(rb p:Nat)(res:Int×List Int)(e:Ending)(w':World):Prop:=Ol 3 1 w rb p res.1 res.2.length (aH res.2) e w'
theorem TB {ws:List P3}{k:Nat}{x y:Int}{z:B}(h:ws[k]? =some (x,y,z)):(ag ws).drop k=z::(ag ws).drop (k+1):=by
 obtain⟨hk,hg⟩:=anv.1 h;rw[List.drop_eq_getElem_cons (by rw[iC];exact hk)];congr 1
 simp[ag,hg]
theorem QZ (w:World):(zeroValue 22).run Tryz.prog w= .ok (.slice none 0 0) w:=by kernel_rfl
theorem VN (w:World)(rb p gm cm:Nat)(gl:Gl)(cls:List (B×List Int))(err:Int)(A:Option Addr)(n c:Nat)(ws:List P3)(hR:Rdr w rb p err)(hP:PAt w p gm cm gl cls)(hw:RdT w 124 A n 3 (dD ws))(hn:n<=1000000000):
  Calls Tryz.prog 128 #[.pointer (some ⟨rb,0,none⟩),.slice A n c] w (ut w rb p (aY gl cls err [] (ag ws))):=by
 have hwl:=hd0 hw.rd.alH;have HR:=hd0 hR;have HW:=hd0 hw;have HP:=hd0 hP;clear hR hw hP;go_enter Tryz.func128,Tryz.ntmps128
 go_wp2;go_step3;go_wp2;go_step3;go_wp2;go_loopw [5,14] (fun v i wr=>∃k:Nat,k<=n/\i= .int .i64 k/\∃er acc,Hid (aY gl cls err [] (ag ws)=aY gl cls er acc ((ag ws).drop k))/\List.length acc<=1000/\ak9 3 1 w rb p er acc.length (aH acc) v wr) (fun _ i _=>n - (intOf i).toNat)
 case atStart=>exact⟨0,nz _,rfl,err,[],rfl,by simp,ak9.start HR.out (World.grownBy.refl _ _)⟩
 case round=>
  obtain⟨k,hk,rfl,er,acc,hrun,hacc,A4,c4,rfl,ho,hr,hg⟩:=hrel;by_cases hlt:k<n
  ·obtain⟨b,o,x,y,z,rfl,hp,q1,q2,q3⟩:=yx HW.out HR.out hg hlt;have hrun2:=hrun.out;rw[TB hp.out] at hrun2;have hP1:=(HP.out.grown HR.out hg).keep (w':=wr.alloc (.cells #[.int .i64 x,.int .i64 y,.string ⟨z.toArray⟩] 124)) (fun b t cs hb _=>Below.heap_alloc _ _ _ hb.lt) (fun b es c hb=>Below.heap_alloc _ _ _ (anx.1 hb).1);have hr0:=hd0 hr;have hg0:wr.grownBy (wr.alloc (.cells #[.int .i64 x,.int .i64 y,.string ⟨z.toArray⟩] 124)) (some rb):=World.grownBy_alloc _ _ _;have EG:=hd0 hg0;have HG:=hd0 hg;have hsz:=hg.size;have hrb:rb<wr.heap.size:=hr.lt;have hpc:=hd0 (fun w=>XQ w z);have k0:wr.cell? ⟨rb,0,none⟩=some (.pointer (some ⟨p,0,none⟩)):=hr.cell 0;have k1:wr.cell? ⟨rb,1,none⟩=some (.int .i64 er):=hr.cell 1;have k11:wr.cell? ⟨p,11,none⟩=some (.map (some cm)):=by obtain⟨cs,g1,g2,g3⟩:=(HP.out.grown HR.out hg).par;exact(g1.cell 11).trans g3
   have hpb:p<wr.heap.size:=World.block_lt_of_cell? wr ⟨p,11,none⟩ k11;obtain⟨f,hf1,hf2⟩:=hP1.cl;have hlk:=hf1.al4 Tryz.underlying114 Tryz.underlying9 (QZ _) (qw z);change (Instr.lookup 114 (.map (some cm)) (.string ⟨(qw z).toArray⟩) true).run Tryz.prog (wr.alloc (.cells #[.int .i64 x,.int .i64 y,.string ⟨z.toArray⟩] 124))=_ at hlk;have LY:=hd0 (fun h=>zx (wr.alloc (.cells #[.int .i64 x,.int .i64 y,.string ⟨z.toArray⟩] 124)) rb p gm gl er z h hP1.gm);have hwd:ik gl cls er acc z=if atB z then(match cls.lookup (qw z) with|some c=>(er,acc++c)|none=>(eC er 23,acc)) else(jM gl er z,acc++[fP gl z]):=rfl
   cases hat:atB z with
   |false=>
    rw[hat] at hwd;have hwd:ik gl cls er acc z=(jM gl er z,acc++[fP gl z]):=hwd;have KA:=hd0 hat;obtain⟨vc,ok,hlk2⟩:∃vc ok,(Instr.lookup 114 (.map (some cm)) (.string ⟨(qw z).toArray⟩) true).run Tryz.prog (wr.alloc (.cells #[.int .i64 x,.int .i64 y,.string ⟨z.toArray⟩] 124))= .ok (.tuple #[vc,.bool ok]) (wr.alloc (.cells #[.int .i64 x,.int .i64 y,.string ⟨z.toArray⟩] 124)):=⟨_,_,hlk⟩
    have hcs:Hid (aH (acc++[fP gl z])=aH acc++[.int .i64 (fP gl z)]):=Du _ _;have hll:Hid ((acc++[fP gl z]).length=acc.length+1):=by show _=_;simp
    generalize jM gl er z=er1 at*
    generalize fP gl z=vz at*
    have hxl:∀A5 c5 w2 er9,(ak9 3 1 w rb p er9 (acc++[vz]).length (aH (acc++[vz])) (.slice A5 (acc.length+1) c5) w2)=(ak9 3 1 w rb p er9 (acc.length+1) (aH acc++[.int .i64 vz]) (.slice A5 (acc.length+1) c5) w2):=fun A5 c5 w2 er9=>by rw[hll.out,hcs.out]
    have HX:=hd0 hxl;clear hlk hf2 hf1 hat hxl;by_cases he:er1=0
    ·by_cases hm:1000<acc.length+1
     ·skip
      subst he;have hres:=hd0 (hrun2.trans (EW hwd (by rw[hll.out];exact hm)));have e3:((1000:Int)<(acc.length:Int)+1):=by omega
      clear hrun2 hwd hP1 hp hrun hr hg hg0;go_wp2_with (first
       |(go_at_call 169;refine(hpc.out _).mono ?_;rintro e w0 ⟨rfl,rfl⟩;rw[KA.out])
       |(go_at_call 132;refine(LY.out (by exact hr0.out.alloc _)).mono ?_;rintro e w1 ⟨rfl,hr1,hg1⟩;have hg2:=df EG.out hg1;have z1:=hg2.size)
       |(at_builtin;refine iP iL rfl (.tmp 41) (.tmp 46) rfl w1 _ rfl w.heap.size acc.length c4 A4 (aH acc) #[.int .i64 vz] rfl rfl rfl (ho.kept hg2 (bY ho hr0.out (by decide))) (by simp[Value.oneCell']) (by omega) (by omega) ?_;intro A5 c5 w2 ho2 hg3 _;have hRR:=ak9.next ho hr0.out HG.out hr1 hg2 ho2 hg3 (by decide);have lm:Rdr w2 rb p _:=hRR.rdr;have hgw:=hRR.grown;have k3:=Bk.cell lm 1;simp only[List.getElem?_toArray,anI,anF] at k3;have HRR:=hd0 hRR;have OI:=hd0 lm;clear hRR lm)
       |(go_at_call 164;refine(qO w2 rb p 0 2 OI.out).mono ?_;rintro e w3 ⟨rfl,hr3,hg4⟩))
      try rw[Exit.noGoto_ret]
      go_ret
      unfold ut;rw[hres.out];refine⟨.slice A5 (acc.length+1) c5,rfl,?_⟩;show ak9 _ _ _ _ _ _ (acc++[vz]).length (aH (acc++[vz])) _ _;rw[HX.out];exact HRR.out.after hr3 hg4 (by decide)
     skip
     subst he;have hres:=hd0 (hrun2.trans (NJ hwd (by rw[hll.out];omega)));have e3:¬((1000:Int)<(acc.length:Int)+1):=by omega
     clear hrun2 hwd hP1 hp hrun hr hg hg0;go_wp2_with (first
      |(go_at_call 169;refine(hpc.out _).mono ?_;rintro e w0 ⟨rfl,rfl⟩;rw[KA.out])
      |(go_at_call 132;refine(LY.out (by exact hr0.out.alloc _)).mono ?_;rintro e w1 ⟨rfl,hr1,hg1⟩;have hg2:=df EG.out hg1;have z1:=hg2.size)
      |(at_builtin;refine iP iL rfl (.tmp 41) (.tmp 46) rfl w1 _ rfl w.heap.size acc.length c4 A4 (aH acc) #[.int .i64 vz] rfl rfl rfl (ho.kept hg2 (bY ho hr0.out (by decide))) (by simp[Value.oneCell']) (by omega) (by omega) ?_;intro A5 c5 w2 ho2 hg3 _;have hRR:=ak9.next ho hr0.out HG.out hr1 hg2 ho2 hg3 (by decide);have lm:Rdr w2 rb p _:=hRR.rdr;have hgw:=hRR.grown;have k3:=Bk.cell lm 1;simp only[List.getElem?_toArray,anI,anF] at k3;have HRR:=hd0 hRR;have OI:=hd0 lm;clear hRR lm))
     go_roundw
     case rel=>exact⟨k+1,by omega,by simp,0,acc++[vz],hres,by rw[hll.out];omega,by rw[HX.out];exact HRR.out⟩
     case measure=>simp[intOf];omega
    skip
    have hres:=hd0 (hrun2.trans (Iu hwd he));have e1:(er1==0)=false:=by simpa using he
    have e2:(er1 !=0)=true:=by simpa using he
    clear hrun2 hwd he hP1 hp hrun hr hg hg0;go_wp2_with (first
     |(go_at_call 169;refine(hpc.out _).mono ?_;rintro e w0 ⟨rfl,rfl⟩;rw[KA.out])
     |(go_at_call 132;refine(LY.out (by exact hr0.out.alloc _)).mono ?_;rintro e w1 ⟨rfl,hr1,hg1⟩;have hg2:=df EG.out hg1;have z1:=hg2.size)
     |(at_builtin;refine iP iL rfl (.tmp 41) (.tmp 46) rfl w1 _ rfl w.heap.size acc.length c4 A4 (aH acc) #[.int .i64 vz] rfl rfl rfl (ho.kept hg2 (bY ho hr0.out (by decide))) (by simp[Value.oneCell']) (by omega) (by omega) ?_;intro A5 c5 w2 ho2 hg3 _;have hRR:=ak9.next ho hr0.out HG.out hr1 hg2 ho2 hg3 (by decide);have lm:Rdr w2 rb p _:=hRR.rdr;have hgw:=hRR.grown;have k3:=Bk.cell lm 1;simp only[List.getElem?_toArray,anI,anF] at k3;have HRR:=hd0 hRR;have OI:=hd0 lm;clear hRR lm))
    try rw[Exit.noGoto_ret]
    go_ret
    unfold ut;rw[hres.out];refine⟨.slice A5 (acc.length+1) c5,rfl,?_⟩;show ak9 _ _ _ _ _ _ (acc++[vz]).length (aH (acc++[vz])) _ _;rw[HX.out];exact HRR.out
   |true=>
    rw[hat] at hwd;have hwd:ik gl cls er acc z=(match cls.lookup (qw z) with|some c=>(er,acc++c)|none=>(eC er 23,acc)):=hwd;have KA:=hd0 hat;rcases hf2 (qw z) with⟨g1,g2⟩|⟨l,A9,c9,g1,g2,g3,g4⟩
    ·rw[g1] at hwd;have hwd:ik gl cls er acc z=(eC er 23,acc):=hwd;rw[g2] at hlk;have hlk:(Instr.lookup 114 (.map (some cm)) (.string ⟨(qw z).toArray⟩) true).run Tryz.prog (wr.alloc (.cells #[.int .i64 x,.int .i64 y,.string ⟨z.toArray⟩] 124))= .ok (.tuple #[.slice none 0 0,.bool false]) _:=hlk;have he:eC er 23≠0:=by unfold eC;split<;>omega
     have hres:=hd0 (hrun2.trans (Iu hwd he));have hfl:=hd0 (fun h=>qO (wr.alloc (.cells #[.int .i64 x,.int .i64 y,.string ⟨z.toArray⟩] 124)) rb p er 23 h);generalize eC er 23=er1 at*
     have e1:(er1==0)=false:=by simpa using he
     have e2:(er1 !=0)=true:=by simpa using he
     clear hrun2 hwd he hP1 hp hrun hr hg hg0 g1 g2 hat hf1;go_wp2_with (first
      |(go_at_call 169;refine(hpc.out _).mono ?_;rintro e w0 ⟨rfl,rfl⟩;rw[KA.out])
      |(go_at_call 164;refine(hfl.out (by exact hr0.out.alloc _)).mono ?_;rintro e w2 ⟨rfl,hr1,hg1⟩;have hg2:=df EG.out hg1;have k3:=Bk.cell hr1 1;simp only[List.getElem?_toArray,anI,anF] at k3;have kP:=hd0 hr1;have BH:=hd0 hg2;clear hr1 hg2 hg1))
     try rw[Exit.noGoto_ret]
     go_ret
     unfold ut;rw[hres.out];exact⟨_,rfl,A4,c4,rfl,ho.kept BH.out (bY ho hr0.out (by decide)),kP.out,df HG.out BH.out⟩
    rw[g1] at hwd;have hwd:ik gl cls er acc z=(er,acc++l):=hwd;rw[g2] at hlk;have hlk:(Instr.lookup 114 (.map (some cm)) (.string ⟨(qw z).toArray⟩) true).run Tryz.prog (wr.alloc (.cells #[.int .i64 x,.int .i64 y,.string ⟨z.toArray⟩] 124))= .ok (.tuple #[.slice A9 l.length c9,.bool true]) _:=hlk;have hrd:=Vh g3 (Bd:=(wr.alloc (.cells #[.int .i64 x,.int .i64 y,.string ⟨z.toArray⟩] 124)).heap.size) (fun b ⟨cs,t,hb,_⟩=>hb.lt);have hcs:Hid (aH (acc++l)=aH acc++aH l):=Du _ _;have hll:Hid ((acc++l).length=acc.length+l.length):=by show _=_;simp
    have hxl:∀A5 c5 w2 er9,(ak9 3 1 w rb p er9 (acc++l).length (aH (acc++l)) (.slice A5 (acc.length+l.length) c5) w2)=(ak9 3 1 w rb p er9 (acc.length+l.length) (aH acc++aH l) (.slice A5 (acc.length+l.length) c5) w2):=fun A5 c5 w2 er9=>by rw[hll.out,hcs.out]
    have HX:=hd0 hxl;have Hg:=hd0 hrd;clear g1 g2 g3 hat hf1 hxl hrd;by_cases he:er=0
    ·by_cases hm:1000<acc.length+l.length
     ·skip
      subst he;have hres:=hd0 (hrun2.trans (EW hwd (by rw[hll.out];exact hm)));have e3:((1000:Int)<(acc.length:Int)+(l.length:Int)):=by omega
      clear hrun2 hwd hP1 hp hrun hr hg hg0;go_wp2_with (first
       |(go_at_call 169;refine(hpc.out _).mono ?_;rintro e w0 ⟨rfl,rfl⟩;rw[KA.out])
       |(at_builtin;refine Gw iL rfl (.tmp 50) (.tmp 51) rfl (wr.alloc (.cells #[.int .i64 x,.int .i64 y,.string ⟨z.toArray⟩] 124)) w.heap.size acc.length c4 A4 (aH acc) _ A9 l.length c9 (aH l) rfl rfl (ho.alloc _) Hg.out (uA l) (by omega) (by simp;omega) ?_;intro A5 c5 w2 ho2 hg3 _;have hRR:=ak9.next ho hr0.out HG.out (hr0.out.alloc _) EG.out ho2 hg3 (by decide);have lm:Rdr w2 rb p _:=hRR.rdr;have k3:=Bk.cell lm 1;simp only[List.getElem?_toArray,anI,anF] at k3;have HRR:=hd0 hRR;have OI:=hd0 lm;clear hRR lm)
       |(go_at_call 164;refine(qO w2 rb p 0 2 OI.out).mono ?_;rintro e w3 ⟨rfl,hr3,hg4⟩))
      try rw[Exit.noGoto_ret]
      go_ret
      unfold ut;rw[hres.out];refine⟨.slice A5 (acc.length+l.length) c5,rfl,?_⟩;show ak9 _ _ _ _ _ _ (acc++l).length (aH (acc++l)) _ _;rw[HX.out];exact HRR.out.after hr3 hg4 (by decide)
     skip
     subst he;have hres:=hd0 (hrun2.trans (NJ hwd (by rw[hll.out];omega)));have e3:¬((1000:Int)<(acc.length:Int)+(l.length:Int)):=by omega
     clear hrun2 hwd hP1 hp hrun hr hg hg0;go_wp2_with (first
      |(go_at_call 169;refine(hpc.out _).mono ?_;rintro e w0 ⟨rfl,rfl⟩;rw[KA.out])
      |(at_builtin;refine Gw iL rfl (.tmp 50) (.tmp 51) rfl (wr.alloc (.cells #[.int .i64 x,.int .i64 y,.string ⟨z.toArray⟩] 124)) w.heap.size acc.length c4 A4 (aH acc) _ A9 l.length c9 (aH l) rfl rfl (ho.alloc _) Hg.out (uA l) (by omega) (by simp;omega) ?_;intro A5 c5 w2 ho2 hg3 _;have hRR:=ak9.next ho hr0.out HG.out (hr0.out.alloc _) EG.out ho2 hg3 (by decide);have lm:Rdr w2 rb p _:=hRR.rdr;have k3:=Bk.cell lm 1;simp only[List.getElem?_toArray,anI,anF] at k3;have HRR:=hd0 hRR;have OI:=hd0 lm;clear hRR lm))
     go_roundw
     case rel=>exact⟨k+1,by omega,by simp,0,acc++l,hres,by rw[hll.out];omega,by rw[HX.out];exact HRR.out⟩
     case measure=>simp[intOf];omega
    skip
    have hres:=hd0 (hrun2.trans (Iu hwd he));have e1:(er==0)=false:=by simpa using he
    have e2:(er !=0)=true:=by simpa using he
    clear hrun2 hwd he hP1 hp hrun hr hg hg0;go_wp2_with (first
     |(go_at_call 169;refine(hpc.out _).mono ?_;rintro e w0 ⟨rfl,rfl⟩;rw[KA.out])
     |(at_builtin;refine Gw iL rfl (.tmp 50) (.tmp 51) rfl (wr.alloc (.cells #[.int .i64 x,.int .i64 y,.string ⟨z.toArray⟩] 124)) w.heap.size acc.length c4 A4 (aH acc) _ A9 l.length c9 (aH l) rfl rfl (ho.alloc _) Hg.out (uA l) (by omega) (by simp;omega) ?_;intro A5 c5 w2 ho2 hg3 _;have hRR:=ak9.next ho hr0.out HG.out (hr0.out.alloc _) EG.out ho2 hg3 (by decide);have lm:Rdr w2 rb p _:=hRR.rdr;have k3:=Bk.cell lm 1;simp only[List.getElem?_toArray,anI,anF] at k3;have HRR:=hd0 hRR;have OI:=hd0 lm;clear hRR lm))
    try rw[Exit.noGoto_ret]
    go_ret
    unfold ut;rw[hres.out];refine⟨.slice A5 (acc.length+l.length) c5,rfl,?_⟩;show ak9 _ _ _ _ _ _ (acc++l).length (aH (acc++l)) _ _;rw[HX.out];exact HRR.out
  obtain rfl:k=n:=by omega
  have hend:aY gl cls err [] (ag ws)=(er,acc):=by rw[hrun.out,an3 (by rw[iC,hwl.out];exact af _)];rfl
  have ahZ:=hd0 hend;clear hend;go_wp2
  try rw[Exit.noGoto_ret]
  go_ret
  unfold ut;rw[ahZ.out];exact⟨_,rfl,A4,c4,rfl,ho,hr,hg⟩
theorem abZ (u:Nat)(h:u<=9223372036854775808):(kF u).length<=19:=aau 18 u (by show u<10000000000000000000;omega)
theorem WY (q:Nat):(q:Int).tmod 10=((q % 10:Nat):Int):=by rw[Int.tmod_eq_emod_of_nonneg (by omega)];omega
theorem aei (q:Nat):(-(q:Int)).tmod 10= -((q % 10:Nat):Int):=by rw[Int.neg_tmod,WY]
theorem Yu (q:Nat):(q:Int).tdiv 10=((q / 10:Nat):Int):=by rw[Int.tdiv_eq_ediv_of_nonneg (by omega)];omega
theorem adD (q:Nat):(-(q:Int)).tdiv 10= -((q / 10:Nat):Int):=by rw[Int.neg_tdiv,Yu]
def sLen (v:Value):Nat:=match v with| .string b=>b.data.size|_=>0
theorem IW {U q:Nat}{out:B}(h:(out=[]/\q=U)\/(out≠[]/\kF U=qB q++out))(hq:out=[]\/0<q):nU q::out≠[]/\kF U=qB (q / 10)++(nU q::out):=by
 refine⟨by simp,?_⟩;rcases h with⟨rfl,rfl⟩|⟨h1,h2⟩
 ·exact SY q
 have h0:0<q:=by
  rcases hq with hq|hq
  ·exact absurd hq h1
  exact hq
 rw[h2,ZC q h0];simp
theorem RU {U:Nat}{out:B}(h:(out=[]/\0=U)\/(out≠[]/\kF U=qB 0++out))(hn:out≠[]):kF U=out:=by
 rcases h with⟨rfl,_⟩|⟨_,h2⟩
 ·exact absurd rfl hn
 rw[h2,qB,if_pos rfl,an6]
theorem JQ {U q:Nat}{out:B}(h:(out=[]/\q=U)\/(out≠[]/\kF U=qB q++out))(hU:U<=9223372036854775808):out.length<=19:=by
 rcases h with⟨rfl,_⟩|⟨_,h2⟩
 ·simp
 have h1:=congrArg List.length h2;have h3:=abZ U hU;rw[la] at h1;omega
theorem SA (w:World)(U:Nat)(hU:U<=9223372036854775807):Calls Tryz.prog 99 #[.int .i64 U] w fun e w'=>e= .returned (.string ⟨(kF U++[32]).toArray⟩)/\Below w.heap.size w w':=by
 have hn0:decide ((U:Int)<0)=false:=by simp
 have HU:Hid (U<=9223372036854775807):=hd0 hU;go_enter Tryz.func99,Tryz.ntmps99
 go_wp2;go_loopw [3,4] (fun s k wr=>∃(q:Nat) (out:B),k= .int .i64 q/\s= .string ⟨out.toArray⟩/\Hid ((out=[]/\q=U)\/(out≠[]/\kF U=qB q++out))/\q<=9223372036854775807/\Below w.heap.size w wr) (fun s k _=>(intOf k).natAbs+(1 - sLen s))
 case atStart=>exact⟨U,[],rfl,rfl,hd0 (.inl ⟨rfl,rfl⟩),HU.out,ant _ _⟩
 case round=>
  obtain⟨q,out,rfl,rfl,hdec,hq,hbl⟩:=hrel;have hol:=JQ hdec.out (by omega);have ht:=WY q;have htd:=Yu q;by_cases h0:q=0
  ·subst h0;by_cases hn:out=[]
   ·subst hn;have hd2:=hd0 (IW hdec.out (.inl rfl));have cv:=fun w=>LJ w 48 0 (by simp)
    have hap:(ByteArray.mk #[nU 0])++⟨#[]⟩=⟨#[nU 0]⟩:=uj [nU 0] [];go_wp2;go_roundw
    case rel=>exact⟨0,[nU 0],by simp,rfl,hd0 (.inr hd2.out),by omega,hbl.alloc hbl.size _⟩
    case measure=>simp[intOf,sLen]
   have hz:=hd0 (RU hdec.out hn);have hap:(ByteArray.mk out.toArray)++⟨#[32]⟩=⟨(out++[32]).toArray⟩:=uj out [32];have e0:(out==[])=false:=by simpa using hn
   clear hn;go_wp2;go_ret
   exact⟨by rw[hz.out];first|rfl|simp,hbl⟩
  have hd2:=hd0 (IW hdec.out (.inr (by omega)));have cv:=fun w=>LJ w (48+(q:Int) % 10) q rfl
  have hap:(ByteArray.mk #[nU q])++⟨out.toArray⟩=⟨(nU q::out).toArray⟩:=uj [nU q] out;have hk:((q:Int) !=0)=true:=by simp;omega
  go_wp2;go_roundw
  case rel=>exact⟨q / 10,nU q::out,by simp,rfl,hd0 (.inr hd2.out),by omega,hbl.alloc hbl.size _⟩
  case measure=>simp[intOf,sLen];omega
theorem aby (q:Nat):(-(q:Int)).tmod 10= -((q:Int) % 10):=by rw[aei];omega
theorem abh (q:Nat):(-(q:Int)).tdiv 10= -((q:Int) / 10):=by rw[adD];omega
theorem UU (w:World)(U:Nat)(h1:1<=U)(hU:U<=9223372036854775808):Calls Tryz.prog 99 #[.int .i64 (-(U:Int))] w fun e w'=>e= .returned (.string ⟨(45::(kF U++[32])).toArray⟩)/\Below w.heap.size w w':=by
 have hn0:decide (0<U)=true:=by simp;omega
 have HU:Hid (U<=9223372036854775808):=hd0 hU;have H1:Hid (1<=U):=hd0 h1;go_enter Tryz.func99,Tryz.ntmps99
 go_wp2;go_loopw [3,4] (fun s k wr=>∃(q:Nat) (out:B),k= .int .i64 (-(q:Int))/\s= .string ⟨out.toArray⟩/\Hid ((out=[]/\q=U)\/(out≠[]/\kF U=qB q++out))/\q<=9223372036854775808/\Below w.heap.size w wr) (fun s k _=>(intOf k).natAbs)
 case atStart=>exact⟨U,[],rfl,rfl,hd0 (.inl ⟨rfl,rfl⟩),HU.out,ant _ _⟩
 case round=>
  obtain⟨q,out,rfl,rfl,hdec,hq,hbl⟩:=hrel;have hol:=JQ hdec.out HU.out;have ht:=aby q;have htd:=abh q;by_cases h0:q=0
  ·subst h0
   have hn:out≠[]:=by
    rintro rfl;rcases hdec.out with⟨_,h⟩|⟨h,_⟩
    ·have:=H1.out;omega
    exact h rfl
   have hz:=hd0 (RU hdec.out hn);have ag6:(ByteArray.mk #[45])++⟨out.toArray⟩=⟨(45::out).toArray⟩:=uj [45] out;have hl1:(45::out).length<=20:=by rw[aT];omega
   obtain⟨o2,ho2⟩:∃x,(45::out:B)=x:=⟨_,rfl⟩
   rw[ho2] at ag6 hl1;have hap:(ByteArray.mk o2.toArray)++⟨#[32]⟩=⟨(o2++[32]).toArray⟩:=uj o2 [32];have e0:(out==[])=false:=by simpa using hn
   have HO:=hd0 ho2;clear hn ht htd ho2;go_wp2;go_ret
   exact⟨by rw[hz.out,<-HO.out];first|rfl|simp,hbl⟩
  have hd2:=hd0 (IW hdec.out (.inr (by omega)));have cv:=fun w=>LJ w (48+(q:Int) % 10) q rfl
  have hap:(ByteArray.mk #[nU q])++⟨out.toArray⟩=⟨(nU q::out).toArray⟩:=uj [nU q] out;have hk:((-(q:Int)) !=0)=true:=by simp;omega
  have hk2:((q:Int) !=0)=true:=by simp;omega
  by_cases hm:(q:Int) % 10=0
  ·have e1:decide ((q:Int) % 10=0)=true:=by simpa using hm
   have e2:decide (0<(q:Int) % 10)=false:=by simp;omega
   have cv0:=fun w=>LJ w 48 q (by omega)
   rw[hm] at ht;clear hm cv e1 e2;go_wp2;go_roundw
   case rel=>exact⟨q / 10,nU q::out,by simp,rfl,hd0 (.inr hd2.out),by omega,hbl.alloc hbl.size _⟩
   case measure=>simp[intOf];omega
  have e2:decide (0<(q:Int) % 10)=true:=by simp;omega
  have b1:0<=(q:Int) % 10/\(q:Int) % 10<10:=by omega
  obtain⟨b1,b2⟩:=b1;clear hm;go_wp2;go_roundw
  case rel=>exact⟨q / 10,nU q::out,by simp,rfl,hd0 (.inr hd2.out),by omega,hbl.alloc hbl.size _⟩
  case measure=>simp[intOf];omega
theorem aF (w:World)(n:Int)(h:I64 n):Calls Tryz.prog 99 #[.int .i64 n] w fun e w'=>e= .returned (.string ⟨(ai n).toArray⟩)/\Below w.heap.size w w':=by
 unfold I64 at h;by_cases h0:n<0
 ·have e1:n= -((n.natAbs:Nat):Int):=by omega
  have e2:ai n=45::(kF n.natAbs++[32]):=by rw[ai,ah,Lib.itoa,if_pos h0,NE];rfl
  rw[e2]
  conv=>arg 3;rw[e1]
  exact UU w n.natAbs (by omega) (by omega)
 have e1:n=((n.toNat:Nat):Int):=by omega
 have e2:ai n=kF n.toNat++[32]:=by rw[ai,ah,Lib.itoa,if_neg h0,NE]
 rw[e2]
 conv=>arg 3;rw[e1]
 exact SA w n.toNat (by omega)
theorem Ny (w:World)(b:Bool):Calls Tryz.prog 148 #[.bool b] w fun e w'=>e= .returned (.string ⟨(ww b).toArray⟩)/\Below w.heap.size w w':=by
 cases b
 ·go_enter Tryz.func148,Tryz.ntmps148
  go_wp2;go_ret
  exact⟨rfl,ant _ _⟩
 go_enter Tryz.func148,Tryz.ntmps148
 go_wp2;go_ret
 exact⟨rfl,ant _ _⟩
def aa5 (cm b:Nat):Obj->Prop
 | .cells _ t _=>lK t=false/\t≠jy
 | .map _ _=>b≠cm
 |_=>True
structure KQ (cm:Nat)(w w':World):Prop where
 same:∀(b:Nat) (o:Obj),w.heap[b]? =some o->aa5 cm b o->w'.heap[b]? =some o
 size:w.heap.size<=w'.heap.size
theorem KQ.refl (cm:Nat)(w:World):KQ cm w w:=⟨fun _ _ h _=>h,af _⟩
theorem KQ.trans {cm:Nat}{a b c:World}(h:KQ cm a b)(k:KQ cm b c):KQ cm a c:=⟨fun x o hx ho=>k.same x o (h.same x o hx ho) ho,nt h.size k.size⟩
theorem KQ.below {cm:Nat}{w w':World}(h:Below w.heap.size w w'):KQ cm w w':=⟨fun b o hb _=>(h.block b (anx.1 hb).1).trans hb,h.size⟩
theorem KQ.row {cm:Nat}{w w':World}{row:Option Nat}(hg:w.grownBy w' row)(hr:∀g,row=some g->∃o,w.heap[g]? =some o/\¬aa5 cm g o):KQ cm w w':=
 ⟨fun b o hb ho=>(hg.block b (anx.1 hb).1 fun e=>by
  obtain⟨o',h1,h2⟩:=hr b e.symm;rw[hb] at h1;injection h1 with h1
  subst h1;exact h2 ho).trans hb,hg.size⟩
theorem KQ.live {cm:Nat}{w w':World}{Bd:Nat}{rv:Rows}(h:Live w Bd rv){i:Nat}(hi:i<15)(hg:w.grownBy w' (rv i).v.ownBlock):KQ cm w w':=
 KQ.row hg fun g e=>by
  obtain⟨cur,hb⟩:=bg (h.own i hi) e;exact⟨_,hb,fun hk=>by
   have:=hk.1;rw[vX] at this;cases this⟩
theorem KQ.par {cm:Nat}{w:World}{p:Nat}{cs:Array Value}(h:Bk w p jy cs)(j:Nat)(u:Value):KQ cm w (w.setCell ⟨p,j,none⟩ u):=
 KQ.row (dE w ⟨p,j,none⟩ u) fun g e=>by
  injection e with e
  subst e;exact⟨_,h,fun hk=>hk.2 rfl⟩
theorem KQ.rdT {cm:Nat}{w w':World}(h:KQ cm w w'){t:TypeId}{A:Option Addr}{n size:Nat}{cs:List Value}(hr:RdT w t A n size cs)(h1:lK t=false)(h2:t≠jy):RdT w' t A n size cs:=
 ⟨hr.1,fun hn=>by
  obtain⟨b,o,cur,e,hb,hc⟩:=hr.2 hn;exact⟨b,o,cur,e,h.same b _ hb ⟨h1,h2⟩,hc⟩⟩
theorem KQ.bk {cm:Nat}{w w':World}(h:KQ cm w w'){g:Nat}{t:TypeId}{cs:Array Value}(hb:Bk w g t cs)(h1:lK t=false)(h2:t≠jy):Bk w' g t cs:=h.same g _ hb ⟨h1,h2⟩
def akO (w:World)(Bd p gm cm:Nat)(gl:Gl)(K:Nat)(r:Ans)(e:Ending)(w':World):Prop:=
 Below Bd w w'/\match r with
  | .ok s'=>e= .returned (.int .i64 0)/\KQ cm w w'/\∃rv',PSt w' Bd p gm cm gl s' rv' K
  | .error c=>e= .returned (.int .i64 c)
theorem akO.bad {w w':World}{Bd p gm cm:Nat}{gl:Gl}{K:Nat}{r:Ans}{c:Int}(hr:r= .error c)(hb:Below Bd w w'):akO w Bd p gm cm gl K r (.returned (.int .i64 c)) w':=by subst hr;exact⟨hb,rfl⟩
theorem akO.good {w w':World}{Bd p gm cm:Nat}{gl:Gl}{K:Nat}{r:Ans}{s':PS}{rv':Rows}(hr:r= .ok s')(hb:Below Bd w w')(hk:KQ cm w w')(h:PSt w' Bd p gm cm gl s' rv' K):akO w Bd p gm cm gl K r (.returned (.int .i64 0)) w':=by subst hr;exact⟨hb,rfl,hk,rv',h⟩
theorem akO.fin {w w':World}{Bd p gm cm:Nat}{gl:Gl}{K:Nat}{s':PS}{rv':Rows}{err:Int}{r:Ans}(hr:r=fin err s')(hb:Below Bd w w')(hk:KQ cm w w')(h:PSt w' Bd p gm cm gl s' rv' K):akO w Bd p gm cm gl K r (.returned (.int .i64 err)) w':=by
 unfold Proofs.YtkijckccfookeaaGreatDoor.fin at hr;split at hr
 ·rename_i h0;subst h0;exact akO.good hr hb hk h
 exact akO.bad hr hb
theorem iy {e t size:Nat}(E:ElT e t size)(ty:TypeId)(w1:World)(base n c:Nat)(A:Option Addr)(xs:List Value)(news:Array Value)(hnl:news.size=size)(hown:w1.ownsRow base e size (.slice A n c) n xs)(h1:∀u∈news.toList,u.oneCell'=true)(hn:n<=10000000000)(hb:base<=w1.heap.size):
  ∃A' c' w',(Builtin.append_ #[t,t] ty #[.slice A n c,.slice (some ⟨w1.heap.size,0,none⟩) 1 1]).run Tryz.prog ((w1.alloc (.cells news e)).drew)= .ok (.slice A' (n+1) c') w'/\w'.ownsRow base e size (.slice A' (n+1) c') (n+1) (xs++news.toList)/\w1.grownBy w' (Value.slice A n c).ownBlock/\Loc w1 (.slice A n c) (.slice A' (n+1) c'):=by
 obtain⟨A',c',w',hrun,h2,h3,h4⟩:=vZ E ty ((w1.alloc (.cells news e)).drew) base n c A xs (hown.alloc _).drew (w1.heap.size+1) (some ⟨w1.heap.size,0,none⟩) 1 1 news.toList (Rd.drew (Rd.newAt _ _ rfl news e 1 size (by omega))) h1 (by omega) (by simp;omega);refine⟨A',c',w',hrun,h2,⟨h3.os,h3.tape,h3.output,nt (by simp) h3.size,fun i hi hne=> ?_⟩,h4.imp id fun h5 g hg=>by have:=h5 g hg;simp at this;omega⟩;exact(h3.block i (by simp;omega) hne).trans (Below.heap_alloc _ _ _ hi)
theorem Gf {e t size:Nat}(E:ElT e t size)(ty:TypeId)(w1:World)(base n c:Nat)(A:Option Addr)(xs:List Value)(Bd:Nat)(A2:Option Addr)(m c2:Nat)(news:List Value)(hown:w1.ownsRow base e size (.slice A n c) n xs)(hr:Rd w1 Bd A2 m size news)(h1:∀u∈news,u.oneCell'=true)(hn:n+m<=100000000000)(hb:base<=w1.heap.size):
  ∃A' c' w',(Builtin.append_ #[t,t] ty #[.slice A n c,.slice A2 m c2]).run Tryz.prog w1= .ok (.slice A' (n+m) c') w'/\w'.ownsRow base e size (.slice A' (n+m) c') (n+m) (xs++news)/\w1.grownBy w' (Value.slice A n c).ownBlock/\Loc w1 (.slice A n c) (.slice A' (n+m) c'):=
 vZ E ty w1 base n c A xs hown Bd A2 m c2 news hr h1 hn hb
section
variable {w w2:World} {Bd p gm cm:Nat} {gl:Gl} {s s':PS} {rv:Rows} {K:Nat}
theorem gq (h:∀j,j<15->(rv j).n<=K){i:Nat}{r:RV}{K':Nat}(hK:K<=K')(hn:r.n<=K'):∀j,j<15->(upd rv i r j).n<=K':=by
 intro j hj;by_cases hji:j=i
 ·subst hji;rw[upd_same];exact hn
 rw[jf _ _ hji];exact nt (h j hj) hK
theorem PSt.push (h:PSt w Bd p gm cm gl s rv K){i:Nat}(hi:i<15){v':Value}{n':Nat}{xs':List Value}(hg:w.grownBy w2 (rv i).v.ownBlock)(ho:w2.ownsRow Bd (kT i) (kS i) v' n' xs')(hl:Loc w (rv i).v v')
  (hf:FD w2 (Fz w2 (upd rv i ⟨v',n',xs'⟩)) (upd rv i ⟨v',n',xs'⟩) s'.f) (hc:s'.cls=s.cls) {j:Nat} (hcs:(dW s rv gm cm).setIfInBounds j v'=dW s' (upd rv i ⟨v',n',xs'⟩) gm cm) {K':Nat} (hK:K<=K') (hn:n'<=K'):
  PSt (w2.setCell ⟨p,j,none⟩ v') Bd p gm cm gl s' (upd rv i ⟨v',n',xs'⟩) K'/\KQ cm w (w2.setCell ⟨p,j,none⟩ v'):=by
 obtain⟨h1,h2,h3,h4,h5⟩:=h.row hi (r:=⟨v',n',xs'⟩) hg ho hl;refine⟨PSt.amm h1 h2 hf h4 h.glI (by rw[hc];exact h5) (gq h.few hK hn) h.low j v' hcs,(KQ.live h.live hi hg).trans (KQ.par h1 j v')⟩
theorem PSt.alD (h:PSt w Bd p gm cm gl s rv K){i:Nat}(hi:i<15)(hg:w.grownBy w2 (rv i).v.ownBlock)(j:Nat)(u:Value)(hB:Bd<=w.heap.size):Below Bd w (w2.setCell ⟨p,j,none⟩ u):=by refine((ant Bd w).grown hg hB (fun g e=>((h.live.own i hi).lt g e).1)).setCell ?_ _;exact h.low.1
theorem PSt.slice (h:PSt w Bd p gm cm gl s rv K){i:Nat}(hi:i<15):∃A c,(rv i).v= .slice A (rv i).n c:=gY (h.live.own i hi)
theorem PSt.size (h:PSt w Bd p gm cm gl s rv K):Bd<=w.heap.size:=by have:=h.par.lt;have:=h.low.1;omega
end
end
section
def Lw (w:World):Bs:=fun b=>b<w.heap.size
theorem Sl.lw {α:Type}{R:Rel α}(ok:R.Ok){size:Nat}{w w':World}{A:Option Addr}{xs:List α}(h:Sl R size w (Lw w) A xs)(hb:Below w.heap.size w w'):Sl R size w' (Lw w') A xs:=(h.keep ok (fun b hb'=>hb.block b hb')).mono ok (fun b (hb':b<_)=>anD hb' hb.size)
theorem dU {α:Type}{f:α->B}{l:List α}{k:Nat}{x:α}(h:l[k]? =some x):(l.take (k+1)).flatMap f=(l.take k).flatMap f++f x:=by rw[aob,h,an2];simp
theorem KU {α:Type}(f:α->B)(l:List α)(k:Nat):((l.take k).flatMap f).length<=(l.flatMap f).length:=by
 conv=>rhs;rw[<-an1 k l]
 rw[an2,la];omega
theorem gZ {α:Type}{f:α->B}{l:List α}{k:Nat}{x:α}(h:l[k]? =some x):((l.take k).flatMap f).length+(f x).length<=(l.flatMap f).length:=by have:=KU f l (k+1);rw[dU h,la] at this;omega
theorem bF (a b:B)(h:a.length+b.length<=100000000000000)(w':World):(Op.stringOp .add ⟨a.toArray⟩ ⟨b.toArray⟩).run Tryz.prog w'= .ok (.string ⟨(a++b).toArray⟩) w':=by rw[run_string_add_sum w' _ _ (by simp[ByteArray.size];omega),ByteArray.mk_append_mk]
theorem fA (n:Int):1<=(ai n).length:=by unfold ai;simp
theorem NC (l:List Int):1<=(rowB l).length:=by have:=fA l.length;unfold rowB;rw[la];omega
theorem Oq (i:Ins):1<=(qE i).length:=by have:=fA i.op;unfold qE;rw[la];omega
theorem JS (l:List Ins):1<=(fG l).length:=by have:=fA l.length;unfold fG;rw[la];omega
theorem fB {α:Type}(f:α->B)(h:∀x,1<=(f x).length)(l:List α):l.length<=(l.flatMap f).length:=by
 induction l with
 |nil=>simp
 |cons a r ih=>have:=h a;rw[anM,la,aT];omega
theorem lg {α:Type}(f:α->B)(h:∀x,1<=(f x).length)(l:List α)(hl:(l.flatMap f).length<=100000000000000):I64 (l.length:Int):=by have:=fB f h l;exact⟨by omega,by omega⟩
theorem aP {F:Nat}{args:Array Value}{W:World}{v:Value}(h:∀w',Below W.heap.size W w'->Calls Tryz.prog F args w' fun e w''=>e= .returned v/\Below w'.heap.size w' w'')(x:WIn (fun v=>Below W.heap.size W v)):
  Calls Tryz.prog F args x.w fun e w''=>e= .returned v/\∃y:WIn (fun v=>Below W.heap.size W v),w''=y.w:=
 (h x.w x.ok).mono fun _ w'' ⟨h1,h2⟩=>⟨h1,⟨w'',x.ok.trans (h2.mono x.ok.size)⟩,rfl⟩
theorem aC {W:World}{b o:Nat}{u:Value}(h:W.cell? ⟨b,o,none⟩=some u)(x:WIn (fun v=>Below W.heap.size W v)):x.w.cell? ⟨b,o,none⟩=some u:=by have hb:=World.block_lt_of_cell? W _ h;exact((aj x.ok).1 _ _ hb).trans h
theorem Nj (w:World)(A:Option Addr)(c:Nat)(l:List Ins)(h:Sl akZ 2 w (Lw w) A l)(hlen:(fG l).length<=100000000000000):
  Calls Tryz.prog 103 #[.slice A l.length c] w fun e w'=>e= .returned (.string ⟨(fG l).toArray⟩)/\Below w.heap.size w w':=by
 have H:=hd0 h;unfold fG at hlen ⊢;rw[la] at hlen;have CP:I64 (l.length:Int):=lg qE Oq l (by omega);have hll:l.length<=100000000000000:=nt (fB qE Oq l) (by omega);have HD0:=hd0 (fun w'=>aF w' (l.length:Int) CP);clear h CP;generalize hD:ai (l.length:Int)=D at*
 clear hD;go_enter Tryz.func103,Tryz.ntmps103
 go_wp2_with fail
 refine(HD0.out _).mono ?_;rintro e w1 ⟨rfl,hb1⟩;have HB1:=hd0 hb1;have H1:=hd0 (H.out.lw akZ.ok hb1);clear hb1 HD0 H;go_wp2_with fail
 go_loopw [3,4] (fun s i wr=>∃k:Nat,k<=l.length/\i= .int .i64 k/\s= .string ⟨(D++(l.take k).flatMap qE).toArray⟩/\Below w1.heap.size w1 wr) (fun _ i _=>l.length - (intOf i).toNat)
 case atStart=>exact⟨0,nz _,rfl,by simp,ant _ _⟩
 case round=>
  obtain⟨k,hk,rfl,rfl,hb⟩:=hrel;have hz:=HB1.out.size;by_cases hlt:k<l.length
  ·obtain⟨b,o,x,rfl,-,hx,q0,q1,i0,i1⟩:=(H1.out.lw akZ.ok hb).ins hlt;have hsn:Hid (D++(l.take (k+1)).flatMap qE=D++(l.take k).flatMap qE++ai x.op++ai x.a):=by show _=_;rw[dU hx.out];simp[qE]
   have hf:=gZ (f:=qE) hx.out;rw[qE,la] at hf;have hs1:(D++(l.take k).flatMap qE).length+(ai x.op).length+(ai x.a).length<=100000000000000:=by rw[la];omega
   have HA:=hd0 (aP (W:=wr) (fun w' _=>aF w' x.op i0));have HB:=hd0 (aP (W:=wr) (fun w' _=>aF w' x.a i1));have c0:=aC q0;have c1:=aC q1;clear hx hf i0 i1 q0 q1;generalize D++(l.take k).flatMap qE=S at*
   generalize ai x.op=D1 at*
   generalize ai x.a=D2 at*
   have r1:=bF S D1 (by omega);have hs2:(S++D1).length+D2.length<=100000000000000:=by rw[la];omega
   have r2:=bF (S++D1) D2 hs2;generalize hS2:S++D1++D2=S2 at*
   generalize S++D1=S1 at*
   have HX:=hd0 hb;clear hb hs1 hs2 hS2;go_wp2_with fail
   refine bW (fun v=>Below wr.heap.size wr v) (by kernel_rfl) (by kernel_rfl) ((ant wr.heap.size wr).drew) ?_;have bT:Nonempty (WIn (fun v=>Below wr.heap.size wr v)):=⟨⟨_,((ant wr.heap.size wr).drew)⟩⟩
   repeat(go_big_quiet_step (first|with_reducible exact HA.out _|with_reducible exact HB.out _))
   refine wpQuiet_nil ?_;intro _ hw';obtain⟨xq,hw''⟩:=hw';subst hw'';go_wp2_with fail
   go_roundw
   case rel=>exact⟨k+1,by omega,by simp,by rw[hsn.out],HX.out.trans (xq.ok.mono HX.out.size)⟩
   case measure=>simp[intOf];omega
  obtain rfl:k=l.length:=by omega
  rw[anA];go_wp2_with fail
  go_ret
  exact⟨rfl,HB1.out.trans (hb.mono hz)⟩
theorem yO (w:World)(A:Option Addr)(c:Nat)(l:List Int)(h:Sl akL 1 w (Lw w) A l)(hlen:(rowB l).length<=100000000000000):
  Calls Tryz.prog 102 #[.slice A l.length c] w fun e w'=>e= .returned (.string ⟨(rowB l).toArray⟩)/\Below w.heap.size w w':=by
 have H:=hd0 h;unfold rowB at hlen ⊢;rw[la] at hlen;have CP:I64 (l.length:Int):=lg ai fA l (by omega);have hll:l.length<=100000000000000:=nt (fB ai fA l) (by omega);have HD0:=hd0 (fun w'=>aF w' (l.length:Int) CP);clear h CP;generalize hD:ai (l.length:Int)=D at*
 clear hD;go_enter Tryz.func102,Tryz.ntmps102
 go_wp2_with fail
 refine(HD0.out _).mono ?_;rintro e w1 ⟨rfl,hb1⟩;have HB1:=hd0 hb1;have H1:=hd0 (H.out.lw akL.ok hb1);clear hb1 HD0 H;go_wp2_with fail
 go_loopw [3,4] (fun s i wr=>∃k:Nat,k<=l.length/\i= .int .i64 k/\s= .string ⟨(D++(l.take k).flatMap ai).toArray⟩/\Below w1.heap.size w1 wr) (fun _ i _=>l.length - (intOf i).toNat)
 case atStart=>exact⟨0,nz _,rfl,by simp,ant _ _⟩
 case round=>
  obtain⟨k,hk,rfl,rfl,hb⟩:=hrel;have hz:=HB1.out.size;by_cases hlt:k<l.length
  ·obtain⟨b,o,x,rfl,-,hx,q0,i0⟩:=(H1.out.lw akL.ok hb).int hlt;have hsn:Hid (D++(l.take (k+1)).flatMap ai=D++(l.take k).flatMap ai++ai x):=by show _=_;rw[dU hx.out];simp
   have hf:=gZ (f:=ai) hx.out;have hs1:(D++(l.take k).flatMap ai).length+(ai x).length<=100000000000000:=by rw[la];omega
   have HA:=hd0 (aF wr x i0);clear hx hf;generalize D++(l.take k).flatMap ai=S at*
   generalize ai x=D1 at*
   have rS1:∀w',(Op.stringOp .add ⟨S.toArray⟩ ⟨D1.toArray⟩).run Tryz.prog w'= .ok (.string ⟨(S++D1).toArray⟩) w':=bF S D1 (by omega);have lS1:(S++D1).length<=S.length+D1.length:=bu _ _;generalize hS1:S++D1=S1 at*
   have Am:=hd0 hS1.symm;clear hS1;have HX:=hd0 hb;clear hb hs1;go_wp2_with fail
   refine HA.out.mono ?_;rintro e w2 ⟨rfl,hb2⟩;have HX2:Hid (Below w1.heap.size w1 w2):=hd0 (HX.out.trans (hb2.mono HX.out.size));clear hb2 HA;go_wp2_with fail
   go_roundw
   case rel=>exact⟨k+1,by omega,by simp,by rw[hsn.out,Am.out],HX2.out⟩
   case measure=>simp[intOf];omega
  obtain rfl:k=l.length:=by omega
  rw[anA];go_wp2_with fail
  go_ret
  exact⟨rfl,HB1.out.trans (hb.mono hz)⟩
theorem Gh (w:World)(A:Option Addr)(c:Nat)(l:List (List Int))(h:Sl akM 1 w (Lw w) A l)(hlen:(lh l).length<=100000000000000):
  Calls Tryz.prog 149 #[.slice A l.length c] w fun e w'=>e= .returned (.string ⟨(lh l).toArray⟩)/\Below w.heap.size w w':=by
 have H:=hd0 h;unfold lh at hlen ⊢;rw[la] at hlen;have CP:I64 (l.length:Int):=lg rowB NC l (by omega);have hll:l.length<=100000000000000:=nt (fB rowB NC l) (by omega);have HD0:=hd0 (fun w'=>aF w' (l.length:Int) CP);clear h CP;generalize hD:ai (l.length:Int)=D at*
 clear hD;go_enter Tryz.func149,Tryz.ntmps149
 go_wp2_with fail
 refine(HD0.out _).mono ?_;rintro e w1 ⟨rfl,hb1⟩;have HB1:=hd0 hb1;have H1:=hd0 (H.out.lw akM.ok hb1);clear hb1 HD0 H;go_wp2_with fail
 go_loopw [3,4] (fun s i wr=>∃k:Nat,k<=l.length/\i= .int .i64 k/\s= .string ⟨(D++(l.take k).flatMap rowB).toArray⟩/\Below w1.heap.size w1 wr) (fun _ i _=>l.length - (intOf i).toNat)
 case atStart=>exact⟨0,nz _,rfl,by simp,ant _ _⟩
 case round=>
  obtain⟨k,hk,rfl,rfl,hb⟩:=hrel;have hz:=HB1.out.size;by_cases hlt:k<l.length
  ·obtain⟨b,o,x,A1,c1,rfl,-,hx,q0,h0⟩:=(H1.out.lw akM.ok hb).row hlt;have hsn:Hid (D++(l.take (k+1)).flatMap rowB=D++(l.take k).flatMap rowB++rowB x):=by show _=_;rw[dU hx.out];simp
   have hf:=gZ (f:=rowB) hx.out;have hs1:(D++(l.take k).flatMap rowB).length+(rowB x).length<=100000000000000:=by rw[la];omega
   have HA:=hd0 (yO wr A1 c1 x h0 (by omega));clear hx hf;generalize D++(l.take k).flatMap rowB=S at*
   generalize rowB x=D1 at*
   have rS2:∀w',(Op.stringOp .add ⟨S.toArray⟩ ⟨D1.toArray⟩).run Tryz.prog w'= .ok (.string ⟨(S++D1).toArray⟩) w':=bF S D1 (by omega);have lS2:(S++D1).length<=S.length+D1.length:=bu _ _;generalize hS2:S++D1=S2 at*
   have HS2:=hd0 hS2.symm;clear hS2;have HX:=hd0 hb;clear hb hs1;go_wp2_with fail
   refine HA.out.mono ?_;rintro e w2 ⟨rfl,hb2⟩;have HX2:Hid (Below w1.heap.size w1 w2):=hd0 (HX.out.trans (hb2.mono HX.out.size));clear hb2 HA;go_wp2_with fail
   go_roundw
   case rel=>exact⟨k+1,by omega,by simp,by rw[hsn.out,HS2.out],HX2.out⟩
   case measure=>simp[intOf];omega
  obtain rfl:k=l.length:=by omega
  rw[anA];go_wp2_with fail
  go_ret
  exact⟨rfl,HB1.out.trans (hb.mono hz)⟩
end
end Go.Proofs.YtkijckccfookeaaGreatDoor
