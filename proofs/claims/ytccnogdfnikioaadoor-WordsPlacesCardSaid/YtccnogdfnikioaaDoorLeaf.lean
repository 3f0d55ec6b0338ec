/- The contracts of fleuronref05.blank, digit, letter, fleuronlaw05.few. -/
import Derived.Test.YtccnogdfnikioaaDoorProg
import Derived.Test.YtccnogdfnikioaaDoorMem
import Derived.Test.YtccnogdfnikioaaDoorPure
import Derived.WalkKit
import Derived.RegionTactic
import Derived.Lib.MinMax
import Derived.Lib.Strings
namespace Go.Proofs.YtccnogdfnikioaaDoor
open Go.RowKit

def digitB (c : UInt8) : Bool := decide (48 ≤ c.toNat) && decide (c.toNat ≤ 57)
def letterB (c : UInt8) : Bool := (decide (65 ≤ c.toNat) && decide (c.toNat ≤ 90)) || (decide (97 ≤ c.toNat) && decide (c.toNat ≤ 122)) || c == 95 || c == 46
theorem u8_eq (c d : UInt8) : (c == d) = decide (c.toNat = d.toNat) := by
  rw [Bool.eq_iff_iff]; simp [UInt8.toNat_inj]

theorem extract_list (s : List UInt8) (a b : Nat) : (ByteArray.mk s.toArray).extract a b = ⟨((s.take b).drop a).toArray⟩ := by
  apply ByteArray.ext
  rw [ByteArray.data_extract]
  apply Array.ext'
  simp [List.extract_eq_take_drop, List.drop_take]

theorem bool_ret {x y : Bool} (h : x = true ↔ y = true) : Ending.returned (.bool x) = .returned (.bool y) := by rw [Bool.eq_iff_iff.2 h]
set_option maxHeartbeats 1000000 in
theorem blank_ok (w : World) (c : UInt8) : Calls Tryd.prog 35 #[.int .u8 c.toNat] w fun e w' => e = .returned (.bool (blank c)) ∧ w = w' := by
  go_enter Tryd.func35, Tryd.ntmps35
  go_wp2
  all_goals go_ret
  all_goals refine ⟨bool_ret ?_, rfl⟩
  all_goals simp [blank, u8_eq]
  all_goals omega
set_option maxHeartbeats 1000000 in
theorem digit_ok (w : World) (c : UInt8) : Calls Tryd.prog 31 #[.int .u8 c.toNat] w fun e w' => e = .returned (.bool (digitB c)) ∧ w = w' := by
  go_enter Tryd.func31, Tryd.ntmps31
  go_wp2
  all_goals go_ret
  all_goals refine ⟨bool_ret ?_, rfl⟩
  all_goals simp [digitB]
  all_goals omega
set_option maxHeartbeats 1000000 in
theorem letter_ok (w : World) (c : UInt8) : Calls Tryd.prog 32 #[.int .u8 c.toNat] w fun e w' => e = .returned (.bool (letterB c)) ∧ w = w' := by
  go_enter Tryd.func32, Tryd.ntmps32
  go_wp2
  all_goals go_ret
  all_goals refine ⟨bool_ret ?_, rfl⟩
  all_goals simp [letterB, u8_eq]
  all_goals omega
set_option maxHeartbeats 1000000 in
theorem few_ok (w : World) (s : List UInt8) : Calls Tryd.prog 15 #[.string ⟨s.toArray⟩] w fun e w' => e = .returned (.string ⟨(s.take 300).toArray⟩) ∧ w = w' := by
  go_enter Tryd.func15, Tryd.ntmps15
  go_wp2
  refine bodyPost_ret (v := .string ⟨(s.take 300).toArray⟩) ?_ rfl ⟨rfl, rfl⟩
  have e : (min (s.length : Int) 300).toNat = min s.length 300 := by omega
  have e2 : s.take (min s.length 300) = s.take 300 := by rw [Nat.min_comm, ← List.take_take, List.take_length]
  simp [results, Tryd.results15, go_sem, extract_list, e, e2]
end Go.Proofs.YtccnogdfnikioaaDoor
