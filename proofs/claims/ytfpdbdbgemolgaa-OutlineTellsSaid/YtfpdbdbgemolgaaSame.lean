/- The contracts of fleuronref03.SamePoints, SameInts, SamePts, Same, Big, of outline.within. -/
import Derived.Deep.QuietTactic
import Derived.BigQuiet
import Derived.WalkSpells
import Derived.KernelRfl
import Derived.Test.YtfpdbdbgemolgaaMem
import Derived.Test.YtfpdbdbgemolgaaProg
namespace Go.Proofs.Ytfpdbdbgemolgaa
open Go.RowKit

theorem eg40 : Try.prog.eqGuardType Try.prog.depth 40 = false := by kernel_rfl
theorem eg47 : Try.prog.eqGuardType Try.prog.depth 47 = false := by kernel_rfl
theorem st40 : Try.prog.stoodInHeld 40 = false := by kernel_rfl
theorem st47 : Try.prog.stoodInHeld 47 = false := by kernel_rfl
theorem run_neq40 (w : World) (x y x' y' : Int) (z z' : Bool) :
    (binOp .neq 40 (.agg #[.int .i64 x, .int .i64 y, .bool z]) (.agg #[.int .i64 x', .int .i64 y', .bool z'])).run Try.prog w = .ok (.bool (!decide (x = x' ∧ y = y' ∧ z = z'))) w := by
  by_cases h1 : x = x' <;> by_cases h2 : y = y' <;> by_cases h3 : z = z' <;> simp [go_sem, Try.underlying40, Try.underlying3, Try.underlying4, h1, h2, h3]
theorem run_neq47 (w : World) (x y x' y' : Int) :
    (binOp .neq 47 (.agg #[.int .i64 x, .int .i64 y]) (.agg #[.int .i64 x', .int .i64 y'])).run Try.prog w = .ok (.bool (!decide (x = x' ∧ y = y'))) w := by
  by_cases h1 : x = x' <;> by_cases h2 : y = y' <;> simp [go_sem, Try.underlying47, Try.underlying3, h1, h2]
theorem run_eql40 (w : World) (x y x' y' : Int) (z z' : Bool) :
    (binOp .eql 40 (.agg #[.int .i64 x, .int .i64 y, .bool z]) (.agg #[.int .i64 x', .int .i64 y', .bool z'])).run Try.prog w = .ok (.bool (decide (x = x' ∧ y = y' ∧ z = z'))) w := by
  by_cases h1 : x = x' <;> by_cases h2 : y = y' <;> by_cases h3 : z = z' <;> simp [go_sem, Try.underlying40, Try.underlying3, Try.underlying4, h1, h2, h3]

theorem within_any (n : Int) (w : World) : Calls Try.prog 45 #[.int .i64 n] w fun e w' => e = .returned (.bool (decide (-16384 ≤ n) && decide (n ≤ 16384))) ∧ w = w' := by
  go_enter Try.func45, Try.ntmps45
  go_wp2
  all_goals
    go_ret
    simp; omega

set_option maxHeartbeats 400000 in
theorem samePoints_eq (w : World) (B : Nat) (A A' : Option Addr) (n c d : Nat) (ps : List P3) (hA : Rd w B A n 3 (c3s ps)) (hA' : Rd w B A' n 3 (c3s ps)) (hn : n ≤ 9223372036854775807) :
    Calls Try.prog 28 #[.slice A n c, .slice A' n d] w fun e w' => e = .returned (.bool true) ∧ ∃ k, w' = w.drewN k := by
  have neq40 := run_neq40
  have eg := eg40
  go_enter Try.func28, Try.ntmps28
  go_wp2
  go_loopw [5] (fun i wr => ∃ k m : Nat, k ≤ n ∧ i = .int .i64 k ∧ wr = w.drewN m) (fun i _ => n - (intOf i).toNat)
  case atStart => exact ⟨0, 0, by omega, rfl, rfl⟩
  case round =>
    obtain ⟨k, m, hk, rfl, rfl⟩ := hrel
    by_cases hlt : k < n
    · obtain ⟨b, o, x, y, z, rfl, -, hp, h1, h2, h3⟩ := hA.at3 hlt
      obtain ⟨b', o', x', y', z', rfl, -, hp', h1', h2', h3'⟩ := hA'.at3 hlt
      have he := hp.out.symm.trans hp'.out
      simp only [Option.some.injEq, Prod.mk.injEq] at he
      obtain ⟨rfl, rfl, rfl⟩ := he
      go_wp2
      go_quiet (fail)
      go_wp2
      go_roundw
      case rel => exact ⟨k + 1, _, by omega, by go_num, rfl⟩
      case measure => simp [intOf]; omega
    · go_wp2
      go_ret
      exact ⟨rfl, _, rfl⟩

set_option maxHeartbeats 400000 in
theorem samePts_eq (w : World) (B : Nat) (A A' : Option Addr) (n c d : Nat) (ps : List P2) (hA : Rd w B A n 2 (c2s ps)) (hA' : Rd w B A' n 2 (c2s ps)) (hn : n ≤ 9223372036854775807) :
    Calls Try.prog 32 #[.slice A n c, .slice A' n d] w fun e w' => e = .returned (.bool true) ∧ ∃ k, w' = w.drewN k := by
  have neq47 := run_neq47
  have eg := eg47
  go_enter Try.func32, Try.ntmps32
  go_wp2
  go_loopw [5] (fun i wr => ∃ k m : Nat, k ≤ n ∧ i = .int .i64 k ∧ wr = w.drewN m) (fun i _ => n - (intOf i).toNat)
  case atStart => exact ⟨0, 0, by omega, rfl, rfl⟩
  case round =>
    obtain ⟨k, m, hk, rfl, rfl⟩ := hrel
    by_cases hlt : k < n
    · obtain ⟨b, o, x, y, rfl, -, hp, h1, h2⟩ := hA.at2 hlt
      obtain ⟨b', o', x', y', rfl, -, hp', h1', h2'⟩ := hA'.at2 hlt
      have he := hp.out.symm.trans hp'.out
      simp only [Option.some.injEq, Prod.mk.injEq] at he
      obtain ⟨rfl, rfl⟩ := he
      go_wp2
      go_quiet (fail)
      go_wp2
      go_roundw
      case rel => exact ⟨k + 1, _, by omega, by go_num, rfl⟩
      case measure => simp [intOf]; omega
    · go_wp2
      go_ret
      exact ⟨rfl, _, rfl⟩

set_option maxHeartbeats 400000 in
theorem sameInts_eq (w : World) (B : Nat) (A A' : Option Addr) (n c d : Nat) (ps : List Int) (hA : Rd w B A n 1 (cIs ps)) (hA' : Rd w B A' n 1 (cIs ps)) (hn : n ≤ 9223372036854775807) :
    Calls Try.prog 34 #[.slice A n c, .slice A' n d] w fun e w' => e = .returned (.bool true) ∧ ∃ k, w' = w.drewN k := by
  go_enter Try.func34, Try.ntmps34
  go_wp2
  go_loopw [5] (fun i wr => ∃ k m : Nat, k ≤ n ∧ i = .int .i64 k ∧ wr = w.drewN m) (fun i _ => n - (intOf i).toNat)
  case atStart => exact ⟨0, 0, by omega, rfl, rfl⟩
  case round =>
    obtain ⟨k, m, hk, rfl, rfl⟩ := hrel
    by_cases hlt : k < n
    · obtain ⟨b, o, x, rfl, -, hp, h1⟩ := hA.atI hlt
      obtain ⟨b', o', x', rfl, -, hp', h1'⟩ := hA'.atI hlt
      have he := hp.out.symm.trans hp'.out
      simp only [Option.some.injEq] at he
      subst he
      go_wp2
      go_quiet (fail)
      go_wp2
      go_roundw
      case rel => exact ⟨k + 1, _, by omega, by go_num, rfl⟩
      case measure => simp [intOf]; omega
    · go_wp2
      go_ret
      exact ⟨rfl, _, rfl⟩

set_option maxHeartbeats 400000 in
theorem same_eq (w : World) (B : Nat) (A A' E E' : Option Addr) (n m c d e f : Nat) (ps : List P3) (es : List Int) (hA : Rd w B A n 3 (c3s ps)) (hA' : Rd w B A' n 3 (c3s ps))
    (hE : Rd w B E m 1 (cIs es)) (hE' : Rd w B E' m 1 (cIs es)) (hB : B ≤ w.heap.size) (hn : n ≤ 9223372036854775807) (hm : m ≤ 9223372036854775807) :
    Calls Try.prog 14 #[.agg #[.slice A n c, .slice E m d], .agg #[.slice A' n e, .slice E' m f]] w fun e w' => e = .returned (.bool true) ∧ Below w.heap.size w w' := by
  go_enter Try.func14, Try.ntmps14
  go_wp2_with fail
  refine (samePoints_eq _ B _ _ _ _ _ ps ((hA.alloc hB _).alloc (by simp; omega) _) ((hA'.alloc hB _).alloc (by simp; omega) _) hn).mono ?_
  rintro e w' ⟨rfl, k, rfl⟩
  go_wp2_with fail
  refine (sameInts_eq _ B _ _ _ _ _ es (Rd.drewN ((hE.alloc hB _).alloc (by simp; omega) _) _) (Rd.drewN ((hE'.alloc hB _).alloc (by simp; omega) _) _) hm).mono ?_
  rintro e w' ⟨rfl, k, rfl⟩
  go_wp2
  go_ret
  exact ⟨by simp, below_drewN (((Below.refl _ _).alloc (Nat.le_refl _) _).alloc (by simp) _) _⟩

theorem big_no (w : World) (A E : Option Addr) (n m c d : Nat) (h : n ≤ 1500) (h' : m ≤ 300) :
    Calls Try.prog 12 #[.agg #[.slice A n c, .slice E m d]] w fun e w' => e = .returned (.bool false) ∧ Below w.heap.size w w' := by
  have h1 : decide ((1500 : Int) < (n : Int)) = false := by simp; omega
  go_enter Try.func12, Try.ntmps12
  go_wp2
  go_ret
  exact ⟨by simp; omega, (Below.refl _ _).alloc (Nat.le_refl _) _⟩

theorem big_yes (w : World) (A E : Option Addr) (n m c d : Nat) (h : 1500 < n ∨ 300 < m) :
    Calls Try.prog 12 #[.agg #[.slice A n c, .slice E m d]] w fun e w' => e = .returned (.bool true) ∧ Below w.heap.size w w' := by
  by_cases hn : 1500 < n
  · go_enter Try.func12, Try.ntmps12
    go_wp2
    go_ret
    exact ⟨rfl, (Below.refl _ _).alloc (Nat.le_refl _) _⟩
  · have hm : 300 < m := by omega
    have h1 : decide ((1500 : Int) < (n : Int)) = false := by simp; omega
    go_enter Try.func12, Try.ntmps12
    go_wp2
    go_ret
    exact ⟨by simp; omega, (Below.refl _ _).alloc (Nat.le_refl _) _⟩
end Go.Proofs.Ytfpdbdbgemolgaa
