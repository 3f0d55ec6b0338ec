/- ParsePairs at any bytes. -/
import Derived.Test.YtkijckccfookeaaGreatDoorPair
import Derived.OpenShut
namespace Go.Proofs.YtkijckccfookeaaGreatDoor
open Go.RowKit

theorem parsePairs_row (w : World) (A0 : Option Addr) (n0 c0 : Nat) (zs : List UInt8) (hr0 : Rd w w.heap.size A0 n0 1 (cYs zs)) (rev : Bool) (c : Int) (hc : (Lit.int .u8 c).wf = true) (hTb : PTabs w) (hnT : nT ≤ w.heap.size) : Calls Tryz.prog 9 #[.slice A0 n0 c0, .bool rev, .int .u8 c] w fun e w' => e = .returned (.bool true) ∧ Below w.heap.size w w' := by
  obtain ⟨c1, c2⟩ := bounds_u8 hc
  have h := parsePairs_ok w A0 n0 c0 zs rev c.toNat hr0 (by omega) hTb hnT
  rw [Int.toNat_of_nonneg c1] at h
  exact h
end Go.Proofs.YtkijckccfookeaaGreatDoor
