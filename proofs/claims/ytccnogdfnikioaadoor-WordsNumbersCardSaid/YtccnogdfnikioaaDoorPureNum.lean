/- Plain Lean: what number a text is. -/
import Derived.Test.YtccnogdfnikioaaDoorLeaf
namespace Go.Proofs.YtccnogdfnikioaaDoor
open Go.RowKit

/-- what digits say -/
def valB (d : B) : Nat := d.foldl (fun n c => 10 * n + (c.toNat - 48)) 0
def numD (d : B) : Bool := d.all digitB && decide (1 ≤ d.length ∧ d.length ≤ 9)
/-- behind a sign, if there is one -/
def unsign (s : B) : B := match s with | 45 :: r => r | s => s
def signed (s : B) : Bool := match s with | 45 :: _ => true | _ => false
def numV (s : B) : Int := if numD (unsign s) then (if signed s then -(valB (unsign s) : Int) else (valB (unsign s) : Int)) else 0
def numOk (s : B) : Bool := numD (unsign s)
theorem valB_snoc (d : B) (c : UInt8) : valB (d ++ [c]) = 10 * valB d + (c.toNat - 48) := by simp [valB]
theorem pow_step (k : Nat) : 10 ^ (k + 1) = 10 * 10 ^ k := by rw [Nat.pow_succ, Nat.mul_comm]
theorem valB_lt (d : B) (h : ∀ c ∈ d, digitB c = true) : valB d < 10 ^ d.length := by
  suffices h : ∀ k, k ≤ d.length → valB (d.take k) < 10 ^ k by simpa using h d.length (Nat.le_refl _)
  intro k
  induction k with
  | zero => intro _; simp [valB]
  | succ k ih =>
    intro hk
    have e : d.take (k + 1) = d.take k ++ [d[k]] := by rw [List.take_succ_eq_append_getElem (by omega)]
    have h1 := ih (by omega)
    have h2 := h d[k] (List.getElem_mem _)
    simp [digitB] at h2
    rw [e, valB_snoc, pow_step]
    omega
theorem numD_no (d : B) (c : UInt8) (h : c ∈ d) (hc : digitB c = false) : numD d = false := by
  rw [numD, Bool.and_eq_false_iff]
  left
  rw [List.all_eq_false]
  exact ⟨c, h, by simp [hc]⟩
theorem numD_len (d : B) (h : d.length < 1 ∨ 9 < d.length) : numD d = false := by
  rw [numD, Bool.and_eq_false_iff]
  right
  simp
  omega
theorem numD_yes (d : B) (h : ∀ c ∈ d, digitB c = true) (h1 : 1 ≤ d.length) (h2 : d.length ≤ 9) : numD d = true := by
  rw [numD, Bool.and_eq_true, List.all_eq_true]
  exact ⟨h, by simp; omega⟩
theorem unsign_cases (s : B) : (∃ r, s = 45 :: r ∧ unsign s = r ∧ signed s = true) ∨ (unsign s = s ∧ signed s = false ∧ ∀ r, s ≠ 45 :: r) := by
  unfold unsign signed
  split
  · exact .inl ⟨_, rfl, rfl, rfl⟩
  · rename_i h
    exact .inr ⟨rfl, rfl, h⟩
end Go.Proofs.YtccnogdfnikioaaDoor
