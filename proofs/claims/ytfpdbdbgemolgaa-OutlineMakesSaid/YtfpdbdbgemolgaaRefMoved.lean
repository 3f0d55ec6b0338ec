/- The contract of fleuronref03.Moved. -/
import Derived.Test.YtfpdbdbgemolgaaCopied
namespace Go.Proofs.Ytfpdbdbgemolgaa
open Go.RowKit

set_option maxHeartbeats 1000000 in
theorem refMoved_ok (w : World) (B : Nat) (A E : Option Addr) (n c m d : Nat) (ps : List P3) (es : List Int) (dx dy : Int) (hA : Rd w B A n 3 (c3s ps)) (hE : Rd w B E m 1 (cIs es)) (hB : B ≤ w.heap.size)
    (hn : n * 24 ≤ 140737488355328) (hm : m * 8 ≤ 140737488355328) :
    Calls Try.prog 16 #[.agg #[.slice A n c, .slice E m d], .int .i64 dx, .int .i64 dy] w (RetO w (ps.map (mv dx dy)) es) := by
  go_enter Try.func16, Try.ntmps16
  go_wp2_with fail
  refine (copied_ok _ B _ _ _ _ _ _ ps es ((hA.alloc hB _).alloc (by simp; omega) _) ((hE.alloc hB _).alloc (by simp; omega) _) (by simp; omega) hn hm).mono ?_
  rintro e w1 ⟨v, u, rfl, hown, hownE, hb⟩
  simp only [World.size_alloc] at hown hownE hb
  have hsz := hb.size
  simp only [World.size_alloc] at hsz
  have hlen := Lib.hid hA.len3
  obtain ⟨A', c', rfl, -⟩ := Rd.of_own hown
  obtain ⟨E', d', rfl, -⟩ := Rd.of_own hownE
  have hR0 : w1.cell? ⟨w.heap.size + 1, 0, none⟩ = some (.slice none 0 0) := (hb.cell (p := ⟨w.heap.size + 1, 0, none⟩) (by simp)).trans (by simp [go_sem])
  have hR1 : w1.cell? ⟨w.heap.size + 1, 1, none⟩ = some (.slice none 0 0) := (hb.cell (p := ⟨w.heap.size + 1, 1, none⟩) (by simp)).trans (by simp [go_sem])
  have hF0 : ∀ o, w1.frozen? ⟨w.heap.size + 1, o, none⟩ = false := fun o => (hb.frozen (p := ⟨w.heap.size + 1, o, none⟩) (by simp)).trans (by simp [go_sem])
  go_wp2_with fail
  obtain ⟨W1, hW1⟩ : ∃ W1, w1.alloc (.cells #[.slice A' n c', .slice E' m d'] 25) = W1 := ⟨_, rfl⟩
  have hq0 : W1.cell? ⟨w1.heap.size, 0, none⟩ = some (.slice A' n c') := by rw [← hW1]; simp [go_sem]
  have hq1 : W1.cell? ⟨w1.heap.size, 1, none⟩ = some (.slice E' m d') := by rw [← hW1]; simp [go_sem]
  have hR2 : W1.cell? ⟨w.heap.size + 1, 0, none⟩ = some (.slice none 0 0) := by rw [← hW1, World.cell?_alloc_lt _ _ _ (by simp; omega)]; exact hR0
  have hR3 : W1.cell? ⟨w.heap.size + 1, 1, none⟩ = some (.slice none 0 0) := by rw [← hW1, World.cell?_alloc_lt _ _ _ (by simp; omega)]; exact hR1
  have hF2 : ∀ o, W1.frozen? ⟨w.heap.size + 1, o, none⟩ = false := fun o => by
    have hx : W1.heap[w.heap.size + 1]? = w1.heap[w.heap.size + 1]? := by rw [← hW1]; exact Below.heap_alloc _ _ _ (by omega)
    exact (World.frozen?_of_block (w := w1) (a := ⟨w.heap.size + 1, o, none⟩) hx).trans (hF0 o)
  have hsW : W1.heap.size = w1.heap.size + 1 := by rw [← hW1]; simp
  have hP : W1.ownsRow (w.heap.size + 1 + 1 + 1 + 1) 40 3 (.slice A' n c') n (c3s ps) := by rw [← hW1]; exact hown.alloc _
  have hQ : W1.ownsRow (w.heap.size + 1 + 1 + 1 + 1) 3 1 (.slice E' m d') m (cIs es) := by rw [← hW1]; exact hownE.alloc _
  have hbW : Below w.heap.size w W1 := by
    rw [← hW1]
    exact ((((Below.refl _ w).alloc (Nat.le_refl _) _).alloc (by simp) _).trans (hb.mono (by omega))).alloc (by omega) _
  have hblk : ∀ g, (Value.slice A' n c').ownBlock = some g → w.heap.size + 1 + 1 + 1 + 1 ≤ g ∧ g < w1.heap.size := fun g hg => ⟨(hown.lt g hg).1, (hown.lt g hg).2⟩
  rw [hW1]
  have hsW1 : w1.heap.size < W1.heap.size := by omega
  clear hR0 hR1 hF0 hW1 hsW hown hownE hb
  go_loopw [8] (fun i wr => ∃ k : Nat, k ≤ n ∧ i = .int .i64 k ∧ wr.ownsRow (w.heap.size + 1 + 1 + 1 + 1) 40 3 (.slice A' n c') n (c3s (mvTo dx dy k ps)) ∧ W1.grownBy wr (Value.slice A' n c').ownBlock) (fun i _ => n - (intOf i).toNat)
  case atStart => exact ⟨0, by omega, rfl, by rw [mvTo_zero]; exact hP, World.grownBy.refl _ _⟩
  case round =>
    obtain ⟨k, hk, rfl, how, hgr⟩ := hrel
    have hq2 : wr.cell? ⟨w1.heap.size, 0, none⟩ = some (.slice A' n c') := (hgr.cell_far ⟨w1.heap.size, 0, none⟩ hsW1 (fun e => by have := hblk _ e.symm; simp at this)).trans hq0
    have hq3 : wr.cell? ⟨w1.heap.size, 1, none⟩ = some (.slice E' m d') := (hgr.cell_far ⟨w1.heap.size, 1, none⟩ hsW1 (fun e => by have := hblk _ e.symm; simp at this)).trans hq1
    by_cases hlt : k < n
    · obtain ⟨g, cap, hv, hg, hgl⟩ := how.form (by omega)
      simp only [Value.slice.injEq, true_and] at hv
      obtain ⟨rfl, rfl⟩ := hv
      obtain ⟨A2, c2, hv2, hrd⟩ := Rd.of_own how
      simp only [Value.slice.injEq, true_and] at hv2
      obtain ⟨rfl, rfl⟩ := hv2
      obtain ⟨b, o, x, y, z, e1, -, hp, h1, h2, h3⟩ := hrd.at3 hlt
      simp only [Option.some.injEq, Addr.mk.injEq, and_true] at e1
      obtain ⟨rfl, rfl⟩ := e1
      simp only [Nat.zero_add] at h1 h2 h3
      have hfz := how.frozenAt
      have hgne := hblk _ rfl
      have hgn1 : ¬ (w1.heap.size = g) := by simp at hgne; omega
      go_wp2_with fail
      go_region
      all_goals go_wp2_with fail
      all_goals go_region
      all_goals go_wp2_with fail
      go_roundw
      case rel =>
        have hs1 := (how.stored (k * 3) (.int .i64 (wrap64 (x + dx)))).1
        have hs2 := (hs1.stored (k * 3 + 1) (.int .i64 (wrap64 (y + dy)))).1
        rw [c3s_set _ k x y _ _ z hp.out, mvTo_succ dx dy ps k x y z (by rw [← mvTo_get dx dy]; exact hp.out)] at hs2
        exact ⟨k + 1, by omega, by go_num, hs2, only_drew (only_drew (only_setCell (p := ⟨g, k * 3 + 1, none⟩) (only_setCell (p := ⟨g, k * 3, none⟩) hgr (.inl rfl) _) (.inl rfl) _))⟩
      case measure => simp [intOf]; omega
    · have hfar : some (w.heap.size + 1) ≠ (Value.slice A' n c').ownBlock := fun e => by have := hblk _ e.symm; omega
      have hlt1 : w.heap.size + 1 < W1.heap.size := by omega
      have hR4 := (hgr.cell_far ⟨w.heap.size + 1, 0, none⟩ hlt1 hfar).trans hR2
      have hR5 := (hgr.cell_far ⟨w.heap.size + 1, 1, none⟩ hlt1 hfar).trans hR3
      have hF4 := fun o => (hgr.frozen_far ⟨w.heap.size + 1, o, none⟩ hlt1 hfar).trans (hF2 o)
      have hQ2 := hQ.kept hgr (own_ne hQ hP (by decide))
      have hbr : Below w.heap.size w wr := hbW.grown hgr hbW.size (fun g hg => by have := hblk g hg; omega)
      clear hfar
      go_wp2_with fail
      refine bodyPost_ret (v := .agg #[.slice A' n c', .slice E' m d']) (by simp [results, Try.results16, go_sem, hR4, hR5]) rfl ?_
      rw [mvTo_all _ _ _ _ (by have := hlen.out; omega)] at how
      refine retO_of_own (ownsRow_setCell_below (ownsRow_setCell_below how (by simp) _) (by simp) _) (ownsRow_setCell_below (ownsRow_setCell_below hQ2 (by simp) _) (by simp) _) ?_
      exact (hbr.setCell (by simp) _).setCell (by simp) _
end Go.Proofs.Ytfpdbdbgemolgaa
