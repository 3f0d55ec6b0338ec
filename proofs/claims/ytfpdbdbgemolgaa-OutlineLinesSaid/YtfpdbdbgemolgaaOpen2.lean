/- Points of the grid, and bools, that came in as arguments: where they lie, and what they hold. -/
import Derived.Deep.Grids
import Derived.Test.YtfpdbdbgemolgaaOpen
namespace Go.Proofs.Ytfpdbdbgemolgaa
open Go.ChangeShapes Go.WideShapes Go.Deep Go.Joins Go.RowKit

theorem cells47 : Try.prog.cellsOf 47 = 2 := by kernel_rfl
theorem cells4 : Try.prog.cellsOf 4 = 1 := by kernel_rfl

section
variable {H : Type} {enc : TypeId × Value → H} {w : World} {base : Nat} {spare : Nat → Bool} {held : Bool}
theorem open_pts {fuel : Nat} {c0 : Value} {x : DataW H × List MemPlace} (h : DataW.trod enc Try.prog w base spare held fuel 32 [c0] = some x) :
    ∃ (A : Option Addr) (n c : Nat) (ps : List P2), c0 = .slice A n c ∧ n ≤ c ∧ c ≤ maxLen ∧ Rd w w.heap.size A n 2 (c2s ps) := by
  rcases open_slice_fields Try.underlying32 Try.underlying47 (by kernel_rfl) cells47 h with h0 | ⟨a, len, cap, hcs, hl, hm, hi⟩
  · simp only [List.cons.injEq, and_true] at h0
    exact ⟨none, 0, 0, [], h0, by omega, by simp, Rd.nil _ _ _ _⟩
  · simp only [List.cons.injEq, and_true] at hcs
    have hex : ∀ i : Nat, ∃ p : P2, i < len → (w.cell? (a.add (i * 2)) = some (.int .i64 p.1) ∧ w.cell? (a.add (i * 2 + 1)) = some (.int .i64 p.2)) := by
      intro i
      by_cases hil : i < len
      · obtain ⟨n', hf⟩ := hi i hil
        obtain ⟨v0, y0, hc0, ht0⟩ := hf 0 _ rfl
        obtain ⟨v1, y1, hc1, ht1⟩ := hf 1 _ rfl
        obtain ⟨x0, e0, _, wx⟩ := DataW.trod_int Try.underlying3 ht0
        obtain ⟨x1, e1, _, wy⟩ := DataW.trod_int Try.underlying3 ht1
        simp at e0 e1
        subst e0 e1
        exact ⟨(x0, x1), fun _ => ⟨hc0, hc1⟩⟩
      · exact ⟨(0, 0), fun h => absurd h hil⟩
    obtain ⟨f, hf⟩ := Classical.axiomOfChoice hex
    refine ⟨some a, len, cap, (List.range len).map f, hcs, hl, hm, ⟨by rw [c2s_length]; simp, fun hn => ?_⟩⟩
    obtain ⟨b, o, s⟩ := a
    have hs : s = none := by
      have := (hf 0 hn).1
      simpa [Addr.add] using World.cell?_spot this
    subst hs
    have hlt : b < w.heap.size := by
      have := (hf 0 hn).1
      rw [addr_add] at this
      exact World.block_lt_of_cell? w _ this
    refine ⟨b, o, rfl, hlt, fun j u hu => ?_⟩
    have hjl : j < len * 2 := by have := (List.getElem?_eq_some_iff.1 hu).1; rw [c2s_length] at this; simpa using this
    have hq : ((List.range len).map f)[j / 2]? = some (f (j / 2)) := by simp [show j / 2 < len by omega]
    obtain ⟨a1, a2⟩ := c2s_get _ _ _ hq
    obtain ⟨g1, g2⟩ := hf (j / 2) (by omega)
    rw [addr_add] at g1 g2
    rcases (by omega : j = j / 2 * 2 ∨ j = j / 2 * 2 + 1) with h | h
    · rw [h] at hu ⊢
      rw [a1] at hu
      cases hu
      exact g1
    · rw [h] at hu ⊢
      rw [a2] at hu
      cases hu
      exact g2
theorem open_bls {fuel : Nat} {c0 : Value} {x : DataW H × List MemPlace} (h : DataW.trod enc Try.prog w base spare held fuel 33 [c0] = some x) :
    ∃ (A : Option Addr) (n c : Nat) (zs : List Bool), c0 = .slice A n c ∧ n ≤ c ∧ c ≤ maxLen ∧ Rd w w.heap.size A n 1 (cBs zs) := by
  rcases open_slice1 Try.underlying33 cells4 h with ⟨hcs, _⟩ | ⟨a, len, cap, m, n, V, D, Pl, hcs, hb, hl, hm, hmm, hx, hi⟩
  · simp only [List.cons.injEq, and_true] at hcs
    exact ⟨none, 0, 0, [], hcs, by omega, by simp, Rd.nil _ _ _ _⟩
  · simp only [List.cons.injEq, and_true] at hcs
    have hex : ∀ i : Nat, ∃ z : Bool, i < len → w.cell? (a.add i) = some (.bool z) := by
      intro i
      by_cases hil : i < len
      · obtain ⟨h1, h2⟩ := hi i (by rw [hmm]; split <;> omega)
        obtain ⟨z, e2, _⟩ := DataW.trod_bool Try.underlying4 h2
        simp at e2
        exact ⟨z, fun _ => by rw [h1, e2]⟩
      · exact ⟨false, fun h => absurd h hil⟩
    obtain ⟨f, hf⟩ := Classical.axiomOfChoice hex
    refine ⟨some a, len, cap, (List.range len).map f, hcs, hl, hm, ⟨by simp [cBs], fun hn => ?_⟩⟩
    obtain ⟨b, o, s⟩ := a
    have hs : s = none := by
      have := hf 0 hn
      simpa [Addr.add] using World.cell?_spot this
    subst hs
    have hlt : b < w.heap.size := by
      have := hf 0 hn
      rw [addr_add] at this
      exact World.block_lt_of_cell? w _ this
    refine ⟨b, o, rfl, hlt, fun j u hu => ?_⟩
    have hjl : j < len := by have := (List.getElem?_eq_some_iff.1 hu).1; simpa [cBs] using this
    have h1 := hf j hjl
    rw [addr_add] at h1
    rw [h1, ← hu]
    simp [cBs, hjl]
end
end Go.Proofs.Ytfpdbdbgemolgaa
