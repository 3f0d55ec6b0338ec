/- The contract of fleuronref05.Decimal. -/
import Derived.Test.YtccnogdfnikioaaDoorNames
import Derived.Test.YtccnogdfnikioaaDoorNumber
namespace Go.Proofs.YtccnogdfnikioaaDoor
open Go.RowKit

def dgB (n : Nat) : UInt8 := UInt8.ofNat (48 + n % 10)
theorem dgB_nat (n : Nat) : (dgB n).toNat = 48 + n % 10 := by
  rw [dgB, UInt8.toNat_ofNat']
  omega
def decB (u : Nat) : B := if _h : u < 10 then [dgB u] else decB (u / 10) ++ [dgB u]
termination_by u
decreasing_by omega
theorem conv2 (w : World) (n : Int) (u : Nat) (h : n = 48 + (u : Int) % 10) : (convert 31 9 (.slice (some ⟨w.heap.size, 0, none⟩) 1 1)).run Tryd.prog (w.alloc (.cells #[.int .u8 n] 5)) = .ok (.string ⟨#[dgB u]⟩) (w.alloc (.cells #[.int .u8 n] 5)) := by
  have := conv1 w (dgB u)
  rw [dgB_nat] at this
  rw [h]
  have e : (48 + (u : Int) % 10) = ((48 + u % 10 : Nat) : Int) := by omega
  rw [e]
  exact this
/-- the digits of a number; none of 0 -/
def decT (q : Nat) : B := if q = 0 then [] else decB q
theorem decT_pos (q : Nat) (h : 0 < q) : decT q = decT (q / 10) ++ [dgB q] := by
  rw [decT, if_neg (by omega), decB]
  split
  · rw [decT, if_pos (by omega)]; rfl
  · rw [decT, if_neg (by omega)]
theorem decB_split (U : Nat) : decB U = decT (U / 10) ++ [dgB U] := by
  rw [decB]
  split
  · rw [decT, if_pos (by omega)]; rfl
  · rw [decT, if_neg (by omega)]
theorem decB_len (k : Nat) : ∀ u, u < 10 ^ (k + 1) → (decB u).length ≤ k + 1 := by
  induction k with
  | zero =>
    intro u hu
    rw [decB, dif_pos (by simpa using hu)]
    simp
  | succ k ih =>
    intro u hu
    rw [decB]
    split
    · simp
    · have := ih (u / 10) (by rw [pow_step] at hu; omega)
      rw [List.length_append]
      simp
      omega
theorem decB_nine (u : Nat) (h : u ≤ 999999999) : (decB u).length ≤ 9 := decB_len 8 u (by show u < 1000000000; omega)
theorem uwrap (U : Nat) (h0 : 1 ≤ U) (hU : U ≤ 999999999) : IntKind.u64.wrap (-IntKind.u64.wrap (-(U : Int))) = U := by
  simp [IntKind.wrap, IntKind.signed, IntKind.bits]
  omega
set_option maxRecDepth 100000 in
set_option maxHeartbeats 4000000 in
theorem decimal_pos (w : World) (U : Nat) (hU : U ≤ 999999999) : Calls Tryd.prog 23 #[.int .i64 U] w fun e w' => e = .returned (.string ⟨(decB U).toArray⟩) ∧ Below w.heap.size w w' := by
  have cv := fun w => conv2 w (48 + (U : Int) % 10) U rfl
  have hn0 : decide ((U : Int) < 0) = false := by simp
  go_enter Tryd.func23, Tryd.ntmps23
  go_wp2
  go_loopw [4, 5] (fun u o wr => ∃ (q : Nat) (out : B), u = .int .u64 q ∧ o = .string ⟨out.toArray⟩ ∧ Hid (decB U = decT q ++ out) ∧ q ≤ 999999999 ∧ Below w.heap.size w wr) (fun u _ _ => (intOf u).toNat)
  case atStart => exact ⟨U / 10, [dgB U], by simp, rfl, decB_split U, by omega, (Below.refl _ _).alloc (Nat.le_refl _) _⟩
  case round =>
    obtain ⟨q, out, rfl, rfl, hdec, hq, hbl⟩ := hrel
    have hol : out.length ≤ 9 := by
      have h1 := congrArg List.length hdec.out
      have h2 := decB_nine U hU
      rw [List.length_append] at h1
      omega
    clear cv
    by_cases h0 : 0 < q
    · have cv := fun w => conv2 w (48 + (q : Int) % 10) q rfl
      have hap : (ByteArray.mk #[dgB q]) ++ ⟨out.toArray⟩ = ⟨(dgB q :: out).toArray⟩ := app_list [dgB q] out
      have hdec2 : Hid (decB U = decT (q / 10) ++ (dgB q :: out)) := by
        show _ = _
        rw [hdec.out, decT_pos q h0]
        simp
      go_wp2
      go_roundw
      case rel => exact ⟨q / 10, dgB q :: out, by simp, rfl, hdec2, by omega, hbl.alloc hbl.size _⟩
      case measure => simp [intOf]; omega
    · obtain rfl : q = 0 := by omega
      have hz : Hid (decB U = out) := by
        show _ = _
        rw [hdec.out, decT, if_pos rfl, List.nil_append]
      have hap : (ByteArray.mk #[]) ++ ⟨out.toArray⟩ = ⟨out.toArray⟩ := app_list [] out
      go_wp2
      go_ret
      exact ⟨by rw [hz.out]; rfl, hbl⟩
set_option maxRecDepth 100000 in
set_option maxHeartbeats 4000000 in
theorem decimal_neg (w : World) (U : Nat) (h0 : 1 ≤ U) (hU : U ≤ 999999999) : Calls Tryd.prog 23 #[.int .i64 (-(U : Int))] w fun e w' => e = .returned (.string ⟨(45 :: decB U).toArray⟩) ∧ Below w.heap.size w w' := by
  have cv := fun w => conv2 w (48 + (U : Int) % 10) U rfl
  have hwr := uwrap U h0 hU
  have hn0 : decide (0 < U) = true := by simp; omega
  go_enter Tryd.func23, Tryd.ntmps23
  go_wp2
  clear hwr
  go_loopw [4, 5] (fun u o wr => ∃ (q : Nat) (out : B), u = .int .u64 q ∧ o = .string ⟨out.toArray⟩ ∧ Hid (decB U = decT q ++ out) ∧ q ≤ 999999999 ∧ Below w.heap.size w wr) (fun u _ _ => (intOf u).toNat)
  case atStart => exact ⟨U / 10, [dgB U], by simp, rfl, decB_split U, by omega, (Below.refl _ _).alloc (Nat.le_refl _) _⟩
  case round =>
    obtain ⟨q, out, rfl, rfl, hdec, hq, hbl⟩ := hrel
    have hol : out.length ≤ 9 := by
      have h1 := congrArg List.length hdec.out
      have h2 := decB_nine U hU
      rw [List.length_append] at h1
      omega
    clear cv
    by_cases h0 : 0 < q
    · have cv := fun w => conv2 w (48 + (q : Int) % 10) q rfl
      have hap : (ByteArray.mk #[dgB q]) ++ ⟨out.toArray⟩ = ⟨(dgB q :: out).toArray⟩ := app_list [dgB q] out
      have hdec2 : Hid (decB U = decT (q / 10) ++ (dgB q :: out)) := by
        show _ = _
        rw [hdec.out, decT_pos q h0]
        simp
      go_wp2
      go_roundw
      case rel => exact ⟨q / 10, dgB q :: out, by simp, rfl, hdec2, by omega, hbl.alloc hbl.size _⟩
      case measure => simp [intOf]; omega
    · obtain rfl : q = 0 := by omega
      have hz : Hid (decB U = out) := by
        show _ = _
        rw [hdec.out, decT, if_pos rfl, List.nil_append]
      have hap : (ByteArray.mk #[45]) ++ ⟨out.toArray⟩ = ⟨(45 :: out).toArray⟩ := app_list [45] out
      go_wp2
      go_ret
      exact ⟨by rw [hz.out]; rfl, hbl⟩
end Go.Proofs.YtccnogdfnikioaaDoor
