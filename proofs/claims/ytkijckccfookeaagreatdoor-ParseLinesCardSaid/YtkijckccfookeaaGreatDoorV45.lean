/- Lemmas. -/
import Derived.Test.YtkijckccfookeaaGreatDoorV49
import Derived.Test.YtkijckccfookeaaGreatDoorSrcE
import Derived.Test.YtkijckccfookeaaGreatDoorTurn8
set_option linter.unusedVariables false
set_option linter.unusedSimpArgs false
namespace Go.Proofs.YtkijckccfookeaaGreatDoor
open Go.RowKit
theorem QS {src:B}{n c:Int}(h:dw src= .error (n,c)):c≠0:=by
 have key:∀(L:List (Int×List B)) (gl:Gl) (s:PS),stmts gl s L= .error (n,c)->c≠0:=by
  intro L;induction L with
  |nil=>intro gl s h;cases h
  |cons x r ih=>
   intro gl s h;obtain⟨m,l⟩:=x;rw[stmts] at h;have hz:=JS gl s l;split at h
   ·rename_i e he;rw[he] at hz;cases h;exact hz c rfl
   exact ih _ _ h
 unfold dw at h;cases hs:stmts (bf 0 ((linesT src).map (·.2))) ps0 (linesT src) with
 |error x=>rw[hs] at h;cases h;exact key _ _ _ hs
 |ok s=>rw[hs] at h;cases h
def acI:Except (Int×Int) Fnt->Int×Int
 | .ok _=>(0,0)
 | .error x=>x
theorem ao0.nine {w:World}{r:Except (Int×Int) Fnt}{e:Ending}{w':World}(h:ao0 w r e w'):Below w.heap.size w w'/\∃(u:Int) (A1 A2 A3 A4 A5 A6 A7 A8:Option Addr) (n1 n2 n3 n4 n5 n6 n7 n8 c1 c2 c3 c4 c5 c6 c7 c8:Nat) (na ca:Int),
  e= .returned (.tuple #[.agg #[.int .i64 u,.slice A1 n1 c1,.slice A2 n2 c2,.slice A3 n3 c3,.slice A4 n4 c4,.slice A5 n5 c5,.slice A6 n6 c6,.slice A7 n7 c7,.slice A8 n8 c8],.int .i64 na,.int .i64 ca])/\na=(acI r).1/\ca=(acI r).2:=by
 obtain⟨h1,h2⟩:=h;refine⟨h1,?_⟩;cases r with
 |ok f=>obtain⟨fc,rfl,A1,c1,A2,c2,A3,c3,A4,c4,A5,c5,A6,c6,A7,c7,A8,c8,rfl,-⟩:=h2;exact⟨_,_,_,_,_,_,_,_,_,_,_,_,_,_,_,_,_,_,_,_,_,_,_,_,_,0,0,rfl,rfl,rfl⟩
 |error x=>exact⟨0,none,none,none,none,none,none,none,none,0,0,0,0,0,0,0,0,0,0,0,0,0,0,0,0,x.1,x.2,h2,rfl,rfl⟩
theorem PY (s:B)(k:Nat)(c:UInt8)(h:s[k]? =some c):(s.take (k+1)).count 10=(s.take k).count 10+if c=10 then 1 else 0:=by rw[aq1,h];simp[List.count_append,List.count_cons]
theorem an4.tl {w w':World}{fc:List Value}{f:Fnt}(h:an4 w (Tf w) fc f)(hb:Below w.heap.size w w'):an4 w' (Lw w') fc f:=an4.ok.mono (an4.ok.keep h (fun b hb'=>hb.block b (Tf.lt b hb'))) (fun b hb'=>aqu (Tf.lt b hb') hb.size)
theorem acO {w:World}:∀b,Dt w b->b<w.heap.size:=fun _ ⟨_,_,h,_⟩=>h.lt
theorem an4.dl {w w':World}{fc:List Value}{f:Fnt}(h:an4 w (Dt w) fc f)(hb:Below w.heap.size w w'):an4 w' (Lw w') fc f:=an4.ok.mono (an4.ok.keep h (fun b hb'=>hb.block b (acO b hb'))) (fun b hb'=>aqu (acO b hb') hb.size)
def adq (w:World)(e:Ending)(w':World):Prop:=∃S:B,S.length<=160000/\e= .returned (.string ⟨S.toArray⟩)/\Below w.heap.size w w'
theorem QZ {v v':World}{f:Fnt}{fc:List Value}(hm:aph f)(hf:an4 v (Tf v) fc f)(hb:Below v.heap.size v v'):Calls Tryz.prog 24 #[.agg fc.toArray] v' (adq v'):=by refine(src_ok v' f fc (hf.tl hb) hm.right hm.small).mono ?_;rintro e w' ⟨rfl,hb'⟩;exact⟨Aw f,by rw[<-xx hm.right];exact Ad hm.right hm.small,rfl,hb'⟩
end Go.Proofs.YtkijckccfookeaaGreatDoor
