/- The contract of fleuronref03.copied. -/
import Derived.Deep.RegionHeld3
import Derived.Deep.RegionLaw
import Derived.Test.YtfpdbdbgemolgaaClone
namespace Go.Proofs.Ytfpdbdbgemolgaa
open Go.RowKit

set_option maxHeartbeats 1000000 in
theorem copied_ok (w : World) (B : Nat) (A E : Option Addr) (n c m d : Nat) (ps : List P3) (es : List Int) (hA : Rd w B A n 3 (c3s ps)) (hE : Rd w B E m 1 (cIs es)) (hB : B ≤ w.heap.size)
    (hn : n * 24 ≤ 140737488355328) (hm : m * 8 ≤ 140737488355328) :
    Calls Try.prog 37 #[.agg #[.slice A n c, .slice E m d]] w fun e w' => ∃ v u, e = .returned (.agg #[v, u]) ∧ w'.ownsRow (w.heap.size + 1 + 1) 40 3 v n (c3s ps) ∧ w'.ownsRow (w.heap.size + 1 + 1) 3 1 u m (cIs es) ∧ Below w.heap.size w w' := by
  obtain ⟨i0, hi0, hz0, hz1, hz2⟩ := info_parts info40
  obtain ⟨j0, hj0, hy0, hy1, hy2⟩ := info_parts info3
  go_enter Try.func37, Try.ntmps37
  go_wp2_with fail
  obtain ⟨W, hW⟩ : ∃ W, W = ((((w.alloc (.cells #[.slice A n c, .slice E m d] 25)).alloc (.cells #[.slice none 0 0, .slice none 0 0] 25)).alloc (.cells #[] 40)).alloc (.cells #[] 3)) := ⟨_, rfl⟩
  rw [← hW]
  have hc0 : W.cell? ⟨w.heap.size, 0, none⟩ = some (.slice A n c) := by rw [hW]; simp [go_sem]
  have hc1 : W.cell? ⟨w.heap.size, 1, none⟩ = some (.slice E m d) := by rw [hW]; simp [go_sem]
  have hr0 : W.cell? ⟨w.heap.size + 1, 0, none⟩ = some (.slice none 0 0) := by rw [hW]; simp [go_sem]
  have hr1 : W.cell? ⟨w.heap.size + 1, 1, none⟩ = some (.slice none 0 0) := by rw [hW]; simp [go_sem]
  have hf : W.frozen? ⟨w.heap.size + 1, 0, none⟩ = false := by rw [hW]; simp [go_sem]
  have hf1 : W.frozen? ⟨w.heap.size + 1, 1, none⟩ = false := by rw [hW]; simp [go_sem]
  have hsz : W.heap.size = w.heap.size + 4 := by rw [hW]; simp
  have hbW : Below w.heap.size w W := by rw [hW]; exact ((((Below.refl _ _).alloc (Nat.le_refl _) _).alloc (by simp) _).alloc (by simp; omega) _).alloc (by simp; omega) _
  have hP : W.ownsRow (w.heap.size + 1 + 1) 40 3 (.slice (some ⟨w.heap.size + 1 + 1, 0, none⟩) 0 0) 0 [] := by
    rw [hW]
    refine World.ownsRow.alloc ?_ _
    have := World.ownsRow_made (size := 3) (e := 40) (base := w.heap.size + 1 + 1) ((w.alloc (.cells #[.slice A n c, .slice E m d] 25)).alloc (.cells #[.slice none 0 0, .slice none 0 0] 25)) #[] 0 (by simp) (by simp [maxLen]) rfl
    simpa using this
  have hQ : W.ownsRow (w.heap.size + 1 + 1) 3 1 (.slice (some ⟨w.heap.size + 1 + 1 + 1, 0, none⟩) 0 0) 0 [] := by
    rw [hW]
    have := World.ownsRow_made (size := 1) (e := 3) (base := w.heap.size + 1 + 1) (((w.alloc (.cells #[.slice A n c, .slice E m d] 25)).alloc (.cells #[.slice none 0 0, .slice none 0 0] 25)).alloc (.cells #[] 40)) #[] 0 (by simp) (by simp [maxLen]) rfl
    simpa using this
  have hA1 : Rd W B A n 3 (c3s ps) := hA.below hbW hB
  have hE1 : Rd W B E m 1 (cIs es) := hE.below hbW hB
  have hlt : w.heap.size < W.heap.size := by omega
  have hlt2 : w.heap.size + 1 + 1 + 1 + 1 ≤ W.heap.size := by omega
  have hBW : B ≤ W.heap.size := by omega
  clear hsz hW
  go_region_law (first
    | (refine step_append_any _ (by rfl) (.tmp 7) (.tmp 9) 22 (by rfl) (w.heap.size + 1 + 1) 40 i0 _ 3 24 Try.underlying22 hi0 hz0 hz1 hz2 rfl (by decide) (.slice (some ⟨w.heap.size + 1 + 1, 0, none⟩) 0 0) 0 [] (by rfl) hP.drew B A n c (c3s ps) (by rfl) hA1.drew (one3 ps) (by simp only [maxLen]; omega) (by omega) (by simp; omega) ?_; intro v1 w1 hown1 hg1 hat1; have hs1 : W.heap.size ≤ w1.heap.size := hg1.size; have kw10 : w1.cell? ⟨w.heap.size, 0, none⟩ = some (.slice A n c) := (hg1.cell_far _ (by simp; omega) (by simp only [Value.ownBlock, ne_eq, Option.some.injEq]; omega)).trans (by assumption); have kw11 : w1.cell? ⟨w.heap.size, 1, none⟩ = some (.slice E m d) := (hg1.cell_far _ (by simp; omega) (by simp only [Value.ownBlock, ne_eq, Option.some.injEq]; omega)).trans (by assumption); have kw12 : w1.cell? ⟨w.heap.size + 1, 0, none⟩ = some (.slice none 0 0) := (hg1.cell_far _ (by simp; omega) (by simp only [Value.ownBlock, ne_eq, Option.some.injEq]; omega)).trans (by assumption); have kw13 : w1.cell? ⟨w.heap.size + 1, 1, none⟩ = some (.slice none 0 0) := (hg1.cell_far _ (by simp; omega) (by simp only [Value.ownBlock, ne_eq, Option.some.injEq]; omega)).trans (by assumption); have kw14 : w1.frozen? ⟨w.heap.size + 1, 0, none⟩ = false := (hg1.frozen_far _ (by simp; omega) (by simp only [Value.ownBlock, ne_eq, Option.some.injEq]; omega)).trans (by assumption); have kw15 : w1.frozen? ⟨w.heap.size + 1, 1, none⟩ = false := (hg1.frozen_far _ (by simp; omega) (by simp only [Value.ownBlock, ne_eq, Option.some.injEq]; omega)).trans (by assumption); obtain ⟨A1, c1, rfl, -⟩ := Rd.of_own hown1)
    | (refine step_append_any _ (by rfl) (.tmp 11) (.tmp 13) 23 (by rfl) (w.heap.size + 1 + 1) 3 j0 _ 1 8 Try.underlying23 hj0 hy0 hy1 hy2 rfl (by decide) (.slice (some ⟨w.heap.size + 1 + 1 + 1, 0, none⟩) 0 0) 0 [] (by rfl) hQ.drew B E m d (cIs es) (by rfl) hE1.drew (oneI es) (by simp only [maxLen]; omega) (by omega) (by simp; omega) ?_; intro v2 w2 hown2 hg2 hat2; have hs2 : W.heap.size ≤ w2.heap.size := hg2.size; have kw20 : w2.cell? ⟨w.heap.size, 0, none⟩ = some (.slice A n c) := (hg2.cell_far _ (by simp; omega) (by simp only [Value.ownBlock, ne_eq, Option.some.injEq]; omega)).trans (by assumption); have kw21 : w2.cell? ⟨w.heap.size, 1, none⟩ = some (.slice E m d) := (hg2.cell_far _ (by simp; omega) (by simp only [Value.ownBlock, ne_eq, Option.some.injEq]; omega)).trans (by assumption); have kw22 : w2.cell? ⟨w.heap.size + 1, 0, none⟩ = some (.slice none 0 0) := (hg2.cell_far _ (by simp; omega) (by simp only [Value.ownBlock, ne_eq, Option.some.injEq]; omega)).trans (by assumption); have kw23 : w2.cell? ⟨w.heap.size + 1, 1, none⟩ = some (.slice none 0 0) := (hg2.cell_far _ (by simp; omega) (by simp only [Value.ownBlock, ne_eq, Option.some.injEq]; omega)).trans (by assumption); have kw24 : w2.frozen? ⟨w.heap.size + 1, 0, none⟩ = false := (hg2.frozen_far _ (by simp; omega) (by simp only [Value.ownBlock, ne_eq, Option.some.injEq]; omega)).trans (by assumption); have kw25 : w2.frozen? ⟨w.heap.size + 1, 1, none⟩ = false := (hg2.frozen_far _ (by simp; omega) (by simp only [Value.ownBlock, ne_eq, Option.some.injEq]; omega)).trans (by assumption); obtain ⟨A2, c2, rfl, -⟩ := Rd.of_own hown2)
    | (refine step_append_any _ (by rfl) (.tmp 7) (.tmp 9) 22 (by rfl) (w.heap.size + 1 + 1) 40 i0 _ 3 24 Try.underlying22 hi0 hz0 hz1 hz2 rfl (by decide) (.slice (some ⟨w.heap.size + 1 + 1, 0, none⟩) 0 0) 0 [] (by rfl) (hP.drew.kept hg2 (.inr (by simp only [Value.ownBlock, ne_eq, Option.some.injEq]; omega))) B A n c (c3s ps) (by rfl) (hA1.drew.grown hg2 (by simpa using hBW) (by simp [Value.ownBlock]; omega)) (one3 ps) (by simp only [maxLen]; omega) (by omega) (by omega) ?_; intro v1 w1 hown1 hg1 hat1; have hs1 : W.heap.size ≤ w1.heap.size := Nat.le_trans hs2 hg1.size; have kw10 : w1.cell? ⟨w.heap.size, 0, none⟩ = some (.slice A n c) := (hg1.cell_far _ (by simp; omega) (by simp only [Value.ownBlock, ne_eq, Option.some.injEq]; omega)).trans (by assumption); have kw11 : w1.cell? ⟨w.heap.size, 1, none⟩ = some (.slice E m d) := (hg1.cell_far _ (by simp; omega) (by simp only [Value.ownBlock, ne_eq, Option.some.injEq]; omega)).trans (by assumption); have kw12 : w1.cell? ⟨w.heap.size + 1, 0, none⟩ = some (.slice none 0 0) := (hg1.cell_far _ (by simp; omega) (by simp only [Value.ownBlock, ne_eq, Option.some.injEq]; omega)).trans (by assumption); have kw13 : w1.cell? ⟨w.heap.size + 1, 1, none⟩ = some (.slice none 0 0) := (hg1.cell_far _ (by simp; omega) (by simp only [Value.ownBlock, ne_eq, Option.some.injEq]; omega)).trans (by assumption); have kw14 : w1.frozen? ⟨w.heap.size + 1, 0, none⟩ = false := (hg1.frozen_far _ (by simp; omega) (by simp only [Value.ownBlock, ne_eq, Option.some.injEq]; omega)).trans (by assumption); have kw15 : w1.frozen? ⟨w.heap.size + 1, 1, none⟩ = false := (hg1.frozen_far _ (by simp; omega) (by simp only [Value.ownBlock, ne_eq, Option.some.injEq]; omega)).trans (by assumption); obtain ⟨A1, c1, rfl, -⟩ := Rd.of_own hown1)
    | (refine step_append_any _ (by rfl) (.tmp 11) (.tmp 13) 23 (by rfl) (w.heap.size + 1 + 1) 3 j0 _ 1 8 Try.underlying23 hj0 hy0 hy1 hy2 rfl (by decide) (.slice (some ⟨w.heap.size + 1 + 1 + 1, 0, none⟩) 0 0) 0 [] (by rfl) (hQ.drew.kept hg1 (.inr (by simp only [Value.ownBlock, ne_eq, Option.some.injEq]; omega))) B E m d (cIs es) (by rfl) (hE1.drew.grown hg1 (by simpa using hBW) (by simp [Value.ownBlock]; omega)) (oneI es) (by simp only [maxLen]; omega) (by omega) (by omega) ?_; intro v2 w2 hown2 hg2 hat2; have hs2 : W.heap.size ≤ w2.heap.size := Nat.le_trans hs1 hg2.size; have kw20 : w2.cell? ⟨w.heap.size, 0, none⟩ = some (.slice A n c) := (hg2.cell_far _ (by simp; omega) (by simp only [Value.ownBlock, ne_eq, Option.some.injEq]; omega)).trans (by assumption); have kw21 : w2.cell? ⟨w.heap.size, 1, none⟩ = some (.slice E m d) := (hg2.cell_far _ (by simp; omega) (by simp only [Value.ownBlock, ne_eq, Option.some.injEq]; omega)).trans (by assumption); have kw22 : w2.cell? ⟨w.heap.size + 1, 0, none⟩ = some (.slice none 0 0) := (hg2.cell_far _ (by simp; omega) (by simp only [Value.ownBlock, ne_eq, Option.some.injEq]; omega)).trans (by assumption); have kw23 : w2.cell? ⟨w.heap.size + 1, 1, none⟩ = some (.slice none 0 0) := (hg2.cell_far _ (by simp; omega) (by simp only [Value.ownBlock, ne_eq, Option.some.injEq]; omega)).trans (by assumption); have kw24 : w2.frozen? ⟨w.heap.size + 1, 0, none⟩ = false := (hg2.frozen_far _ (by simp; omega) (by simp only [Value.ownBlock, ne_eq, Option.some.injEq]; omega)).trans (by assumption); have kw25 : w2.frozen? ⟨w.heap.size + 1, 1, none⟩ = false := (hg2.frozen_far _ (by simp; omega) (by simp only [Value.ownBlock, ne_eq, Option.some.injEq]; omega)).trans (by assumption); obtain ⟨A2, c2, rfl, -⟩ := Rd.of_own hown2))
  all_goals
    go_wp2
    refine bodyPost_ret (v := .agg #[.slice A1 (0 + n) c1, .slice A2 (0 + m) c2]) (by simp [results, Try.results37, go_sem, *]) rfl ?_
    refine ⟨_, _, rfl, ?_⟩
    simp only [Nat.zero_add, List.nil_append] at hown1 hown2 hat1 hat2 ⊢
    first
      | (have hne : (Value.slice A1 n c1).ownBlock ≠ (Value.slice (some ⟨w.heap.size + 1 + 1 + 1, 0, none⟩) 0 0).ownBlock := by
           rcases hat1 with h | h <;> rw [h] <;> simp only [Value.ownBlock, ne_eq, Option.some.injEq, World.drew] <;> omega
         exact ⟨ownsRow_setCell_below (ownsRow_setCell_below (hown1.kept hg2 (.inr hne)) (by simp) _) (by simp) _, ownsRow_setCell_below (ownsRow_setCell_below hown2 (by simp) _) (by simp) _,
           ((((hbW.drew.grown hg1 (by simp; omega) (by simp [Value.ownBlock]; omega)).grown hg2 (by omega) (by simp [Value.ownBlock]; omega))).setCell (by simp) _).setCell (by simp) _⟩)
      | (have hne : (Value.slice A2 m c2).ownBlock ≠ (Value.slice (some ⟨w.heap.size + 1 + 1, 0, none⟩) 0 0).ownBlock := by
           rcases hat2 with h | h <;> rw [h] <;> simp only [Value.ownBlock, ne_eq, Option.some.injEq, World.drew] <;> omega
         exact ⟨ownsRow_setCell_below (ownsRow_setCell_below hown1 (by simp) _) (by simp) _, ownsRow_setCell_below (ownsRow_setCell_below (hown2.kept hg1 (.inr hne)) (by simp) _) (by simp) _,
           ((((hbW.drew.grown hg2 (by simp; omega) (by simp [Value.ownBlock]; omega)).grown hg1 (by omega) (by simp [Value.ownBlock]; omega))).setCell (by simp) _).setCell (by simp) _⟩)
end Go.Proofs.Ytfpdbdbgemolgaa
