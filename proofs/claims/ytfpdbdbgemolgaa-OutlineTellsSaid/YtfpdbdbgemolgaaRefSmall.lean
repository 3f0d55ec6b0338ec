/- The contracts of fleuronref03.half, down, mix. -/
import Derived.Test.YtfpdbdbgemolgaaSmall
namespace Go.Proofs.Ytfpdbdbgemolgaa
open Go.RowKit

theorem tdiv_neg2 (n : Int) (h : n < 0) : (n.tdiv 2 = (n + 1) / 2) ∧ (n.tmod 2 = n - 2 * ((n + 1) / 2)) := by
  obtain ⟨m, rfl⟩ : ∃ m : Int, n = -m := ⟨-n, by omega⟩
  rw [Int.neg_tdiv, Int.neg_tmod, Int.tdiv_eq_ediv_of_nonneg (by omega), Int.tmod_eq_emod_of_nonneg (by omega)]
  omega
theorem tdiv_neg64 (n : Int) (h : n < 0) : (n.tdiv 64 = (n + 63) / 64) ∧ (n.tmod 64 = n - 64 * ((n + 63) / 64)) := by
  obtain ⟨m, rfl⟩ : ∃ m : Int, n = -m := ⟨-n, by omega⟩
  rw [Int.neg_tdiv, Int.neg_tmod, Int.tdiv_eq_ediv_of_nonneg (by omega), Int.tmod_eq_emod_of_nonneg (by omega)]
  omega
theorem wrap64_range (n : Int) : -9223372036854775808 ≤ wrap64 n ∧ wrap64 n ≤ 9223372036854775807 := by unfold wrap64; omega
theorem ret_int {k : IntKind} {a b : Int} (h : a = b) : Ending.returned (.int k a) = .returned (.int k b) := by rw [h]

theorem half_ok (n : Int) (w : World) (h1 : -9223372036854775808 ≤ n) (h2 : n ≤ 9223372036854775807) :
    Calls Try.prog 54 #[.int .i64 n] w fun e w' => e = .returned (.int .i64 (n / 2)) ∧ w = w' := by
  by_cases h : 0 ≤ n
  · by_cases hm : (n % 2 != 0) = true
    · have hd : decide (n < 0) = false := by simp; omega
      go_enter Try.func54, Try.ntmps54
      go_wp2
      go_ret
      exact ⟨rfl, rfl⟩
    · have hm' : (n % 2 != 0) = false := by simpa using hm
      go_enter Try.func54, Try.ntmps54
      go_wp2
      go_ret
      exact ⟨rfl, rfl⟩
  · have hd : decide (n < 0) = true := by simp; omega
    obtain ⟨e1, e2⟩ := tdiv_neg2 n (by omega)
    have e3 := (tdiv_neg2 (n - 1) (by omega)).1
    by_cases hm : (n.tmod 2 != 0) = true
    · have H : Hid (((n - 1).tdiv 2) = n / 2) := by
        show _ = _
        rw [e3]
        rw [e2] at hm
        simp at hm
        omega
      have hlow : -9223372036854775807 ≤ n := by
        rw [e2] at hm
        simp at hm
        omega
      have hq : -9223372036854775807 ≤ n.tdiv 2 ∧ n.tdiv 2 ≤ 0 := by rw [e1]; omega
      obtain ⟨hq1, hq2⟩ := hq
      clear e1 e2 e3
      go_enter Try.func54, Try.ntmps54
      go_wp2
      go_ret
      exact ⟨ret_int H.out, rfl⟩
    · have hm' : (n.tmod 2 != 0) = false := by simpa using hm
      have H : Hid (n.tdiv 2 = n / 2) := by
        show _ = _
        rw [e1]
        rw [e2] at hm
        simp at hm
        omega
      clear e1 e2 e3
      go_enter Try.func54, Try.ntmps54
      go_wp2
      go_ret
      exact ⟨ret_int H.out, rfl⟩

theorem down_ok (n : Int) (w : World) (h1 : -9223372036854775808 ≤ n) (h2 : n ≤ 9223372036854775807) :
    Calls Try.prog 55 #[.int .i64 n] w fun e w' => e = .returned (.int .i64 (n / 64)) ∧ w = w' := by
  by_cases h : 0 ≤ n
  · by_cases hm : (n % 64 != 0) = true
    · have hd : decide (n < 0) = false := by simp; omega
      go_enter Try.func55, Try.ntmps55
      go_wp2
      go_ret
      exact ⟨rfl, rfl⟩
    · have hm' : (n % 64 != 0) = false := by simpa using hm
      go_enter Try.func55, Try.ntmps55
      go_wp2
      go_ret
      exact ⟨rfl, rfl⟩
  · have hd : decide (n < 0) = true := by simp; omega
    obtain ⟨e1, e2⟩ := tdiv_neg64 n (by omega)
    by_cases hm : (n.tmod 64 != 0) = true
    · have H : Hid ((n.tdiv 64 - 1) = n / 64) := by
        show _ = _
        rw [e1]
        rw [e2] at hm
        simp at hm
        omega
      have hlow : -9223372036854775807 ≤ n := by
        rw [e2] at hm
        simp at hm
        omega
      have hq : -9223372036854775807 ≤ n.tdiv 64 ∧ n.tdiv 64 ≤ 0 := by rw [e1]; omega
      obtain ⟨hq1, hq2⟩ := hq
      clear e1 e2 
      go_enter Try.func55, Try.ntmps55
      go_wp2
      go_ret
      exact ⟨ret_int H.out, rfl⟩
    · have hm' : (n.tmod 64 != 0) = false := by simpa using hm
      have H : Hid (n.tdiv 64 = n / 64) := by
        show _ = _
        rw [e1]
        rw [e2] at hm
        simp at hm
        omega
      clear e1 e2 
      go_enter Try.func55, Try.ntmps55
      go_wp2
      go_ret
      exact ⟨ret_int H.out, rfl⟩

theorem half_w (x : Int) (w : World) : Calls Try.prog 54 #[.int .i64 (IntKind.i64.wrap x)] w fun e w' => e = .returned (.int .i64 (wrap64 x / 2)) ∧ w = w' := by
  rw [IntWalk.i64_left]
  exact half_ok _ _ (wrap64_range _).1 (wrap64_range _).2

theorem mix_ok (w : World) (s : Nat) (a c b : Int) (h1 : 1 ≤ s) (h8 : s ≤ 8) : Calls Try.prog 52 #[.int .i64 s, .int .i64 a, .int .i64 c, .int .i64 b] w fun e w' => e = .returned (.int .i64 (mixP s a c b)) ∧ w = w' := by
  go_enter Try.func52, Try.ntmps52
  go_wp2_with fail
  refine (down_ok _ _ ?_ ?_).mono ?_
  · exact (wrap64_range _).1
  · exact (wrap64_range _).2
  · rintro e w' ⟨rfl, rfl⟩
    go_wp2
    go_ret
    exact ⟨by simp [mixP], rfl⟩
end Go.Proofs.Ytfpdbdbgemolgaa
