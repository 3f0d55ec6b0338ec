/- Lemmas. -/
import Derived.Test.YtalehhjjbadlpaaGreatDoorX30
import Derived.Test.YtalehhjjbadlpaaGreatDoorCards
import Derived.Test.YtalehhjjbadlpaaGreatDoorTie
import Derived.LaidMore
import Derived.Lay
set_option linter.all false
set_option maxRecDepth 100000
set_option maxHeartbeats 32000000
namespace Go.Proofs.YtalehhjjbadlpaaGreatDoor
open Go.ChangeShapes Go.WideShapes Go.ChangeAt Go.RowKit
open Go.ChangeMaps (open_string shut_string)
theorem IX:ownKnob Tryz.prog.godebug=none:=by kernel_rfl
theorem um:laidOutB Tryz.prog=true:=by kernel_rfl
theorem Ec (os:Os)(b:os.Started)(H:Type)(ak:TypeId×Value->H):
  ReturnsInHanded {} Tryz.checked os 3 .any (λw a=>(Rows.unparseTurnedSpec.pre ak Tryz.prog Tryz.f3 Rows.unparseTurnedRow.domain false w a/\laidMetH Tryz.prog Rows.unparseTurnedRow.laid w)/\sizedMet ak Tryz.prog Tryz.f3 (OpenSpec.ofChange Rows.unparseTurnedSpec) false w a)
   (Rows.unparseTurnedSpec.post ak Tryz.prog Tryz.f3 false true false false):=by
 refine returnsInHanded_of_change_and (C:=Tryz.checked) (X:=λw _=>laidMetH Tryz.prog Rows.unparseTurnedRow.laid w) (λ_ _ _ N h=>h.of_heap N) IX b (by kernel_rfl) Tryz.func3
  (ChangeSpec.witness_shaped (enc:=ak) (C:=Tryz.checked) (os:=os) (X:=λw _=>laidMetH Tryz.prog Rows.unparseTurnedRow.laid w) false (World.laidAll Tryz.prog os Rows.unparseTurnedRow.laid) #[(),.agg #[.int .i64 0,.int .i64 0,.int .i64 0]] 8 (World.laidAll_os _ _ _)
   (World.shaped_of_ZipB (by kernel_rfl) (by kernel_rfl)) (by kernel_rfl) (by kernel_rfl) (by kernel_rfl)
   (by rw[MakeChecks.laidMetH_plain _ _ _ (by kernel_rfl)];exact laidMet_laidAll _ (by kernel_rfl) (by kernel_rfl))) ?_
 intro W i a O gs l c D E _ P _;have d:∀(j:Nat) t v,Tryz.f3.params[j]?=some t->a[j]?=some v->Value.okWide Tryz.prog W .any i t v:=c;have n:=D;obtain⟨p,q,k,Q,rfl,R,S⟩:=D;have F:DataW.TrodAll ak Tryz.prog W 0 (λ_=>true) true Tryz.f3.params.toList a.toList O p:=k;rw[Tryz.params3]at F d;obtain⟨G,T,d0,U,V,q0,o,rfl,rfl,I,Y⟩:=trodAll_cons F;obtain⟨ad,Z,d1,aa,p1,q1,rfl,rfl,rfl,K,r1⟩:=trodAll_cons Y;obtain⟨rfl,rfl,rfl⟩:=trodAll_nil r1;obtain rfl:a=#[G,ad]:=by cases a;simp_all
 obtain⟨rfl,rfl⟩:=trodVars_none Q;have L:=I;have r:∀x∈V,x.block<W.heap.size:=by obtain⟨m,s⟩:=L;exact DataW.trod_lt m _ _ _ s
 have M:=K;have u:∀x∈p1,x.block<W.heap.size:=by obtain⟨m,s⟩:=M;exact DataW.trod_lt m _ _ _ s
 obtain⟨A0,n0,c0,y,rfl,z,ab,A,B⟩:=C' (d 0 22 G rfl rfl) I;obtain⟨a1,b1,c1,rfl,rfl,rfl,w1,x1,y1⟩:=Lb Ty Tryz.underlying3 (d 1 23 ad rfl rfl) K;clear k c;have f:laidMetH Tryz.prog Rows.unparseTurnedRow.laid W:=P;rw[MakeChecks.laidMetH_plain _ _ _ (by kernel_rfl)]at f;obtain⟨kL,EE⟩:=YG f (by simp[Rows.unparseTurnedRow]) (by simp[Rows.unparseTurnedRow]) (by simp[Rows.unparseTurnedRow]);refine(IY W A0 n0 c0 y z A B a1 b1 c1 w1 x1 y1 (CC f (by simp[Rows.unparseTurnedRow]) (by simp[Rows.unparseTurnedRow]) (by simp[Rows.unparseTurnedRow]) (by simp[Rows.unparseTurnedRow])) (CA f (by simp[Rows.unparseTurnedRow])) kL EE).mono λe W' ⟨he,g⟩=> ?_
 subst he;exact⟨_,rfl,_,_,_,[],_,[],n,trodAll_mk1 (shut_bool Tryz.underlying4 _),(trodAll_cons_mk (Below.trod um (by kernel_rfl) (of_decide_eq_true (by kernel_rfl)) L g r) (trodAll_cons_mk (Below.trod um (by kernel_rfl) (of_decide_eq_true (by kernel_rfl)) M g u) trodAll_mk0)),rfl,g.frame _,λh=>by cases h⟩
