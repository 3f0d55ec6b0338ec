/- ParseClasses at any three bytes. -/
import Derived.Test.YtkijckccfookeaaGreatDoorCls
import Derived.OpenShut
namespace Go.Proofs.YtkijckccfookeaaGreatDoor
open Go.RowKit

theorem parseClasses_row (w : World) (a : Int) (ha : (Lit.int .u8 a).wf = true) (b : Int) (hb : (Lit.int .u8 b).wf = true) (c : Int) (hc : (Lit.int .u8 c).wf = true) (hTb : PTabs w) (hnT : nT ≤ w.heap.size) : Calls Tryz.prog 10 #[.int .u8 a, .int .u8 b, .int .u8 c] w fun e w' => e = .returned (.bool true) ∧ Below w.heap.size w w' := by
  obtain ⟨a1, a2⟩ := bounds_u8 ha
  obtain ⟨b1, b2⟩ := bounds_u8 hb
  obtain ⟨c1, c2⟩ := bounds_u8 hc
  have h := parseClasses_ok w a.toNat b.toNat c.toNat (by omega) (by omega) (by omega) hTb hnT
  rw [Int.toNat_of_nonneg a1, Int.toNat_of_nonneg b1, Int.toNat_of_nonneg c1] at h
  exact h
end Go.Proofs.YtkijckccfookeaaGreatDoor
