/- The contract of outline.Moved. -/
import Derived.Test.YtfpdbdbgemolgaaClone
namespace Go.Proofs.Ytfpdbdbgemolgaa
open Go.RowKit

set_option maxHeartbeats 1000000 in
theorem moved_ok (w : World) (B : Nat) (A E : Option Addr) (n c m d : Nat) (ps : List P3) (es : List Int) (dx dy : Int) (hA : Rd w B A n 3 (c3s ps)) (hE : Rd w B E m 1 (cIs es)) (hB : B ≤ w.heap.size)
    (hn : n * 24 ≤ 140737488355328) (hm : m * 8 ≤ 140737488355328) :
    Calls Try.prog 15 #[.agg #[.slice A n c, .slice E m d], .int .i64 dx, .int .i64 dy] w (RetO w (ps.map (mv dx dy)) es) := by
  go_enter Try.func15, Try.ntmps15
  go_wp2_with fail
  refine (clone3 _ B _ _ _ ps ((hA.alloc hB _).alloc (by simp; omega) _) (by simp; omega) hn).mono ?_
  rintro e w1 ⟨v, rfl, hown, hb⟩
  simp only [World.size_alloc] at hown hb
  have hsz := hb.size
  simp only [World.size_alloc] at hsz
  have hlen := Lib.hid hA.len3
  have hE0 : w1.cell? ⟨w.heap.size, 1, none⟩ = some (.slice E m d) := (hb.cell (p := ⟨w.heap.size, 1, none⟩) (by simp; omega)).trans (by simp [go_sem])
  have hR0 : w1.cell? ⟨w.heap.size + 1, 0, none⟩ = some (.slice none 0 0) := (hb.cell (p := ⟨w.heap.size + 1, 0, none⟩) (by simp)).trans (by simp [go_sem])
  have hR1 : w1.cell? ⟨w.heap.size + 1, 1, none⟩ = some (.slice none 0 0) := (hb.cell (p := ⟨w.heap.size + 1, 1, none⟩) (by simp)).trans (by simp [go_sem])
  have hF0 : ∀ o, w1.frozen? ⟨w.heap.size + 1, o, none⟩ = false := fun o => (hb.frozen (p := ⟨w.heap.size + 1, o, none⟩) (by simp)).trans (by simp [go_sem])
  obtain ⟨A', c', rfl, -⟩ := Rd.of_own hown
  go_wp2_with fail
  go_loopw [14] (fun i wr => ∃ k : Nat, k ≤ n ∧ i = .int .i64 k ∧ wr.ownsRow (w.heap.size + 1 + 1) 40 3 (.slice A' n c') n (c3s (mvTo dx dy k ps)) ∧ Below (w.heap.size + 1 + 1) w1 wr) (fun i _ => n - (intOf i).toNat)
  case atStart => exact ⟨0, by omega, rfl, by rw [mvTo_zero]; exact hown, Below.refl _ _⟩
  case round =>
    obtain ⟨k, hk, rfl, how, hbl⟩ := hrel
    by_cases hlt : k < n
    · obtain ⟨g, cap, hv, hg, hgl⟩ := how.form (by omega)
      simp only [Value.slice.injEq, true_and] at hv
      obtain ⟨rfl, rfl⟩ := hv
      obtain ⟨A2, c2, hv2, hrd⟩ := Rd.of_own how
      simp only [Value.slice.injEq, true_and] at hv2
      obtain ⟨rfl, rfl⟩ := hv2
      obtain ⟨b, o, x, y, z, e1, -, hp, h1, h2, h3⟩ := hrd.at3 hlt
      simp only [Option.some.injEq, Addr.mk.injEq, and_true] at e1
      obtain ⟨rfl, rfl⟩ := e1
      simp only [Nat.zero_add] at h1 h2 h3
      have hfz := how.frozenAt
      go_wp2_with fail
      go_roundw
      case rel =>
        have hs1 := (how.stored (k * 3) (.int .i64 (wrap64 (x + dx)))).1
        have hs2 := (hs1.stored (k * 3 + 1) (.int .i64 (wrap64 (y + dy)))).1
        rw [c3s_set _ k x y _ _ z hp.out, mvTo_succ dx dy ps k x y z (by rw [← mvTo_get dx dy]; exact hp.out)] at hs2
        exact ⟨k + 1, by omega, by go_num, hs2, (hbl.setCell (by simp; omega) _).setCell (by simp; omega) _⟩
      case measure => simp [intOf]; omega
    · have hE2 := (hbl.cell (p := ⟨w.heap.size, 1, none⟩) (by simp; omega)).trans hE0
      have hR2 := (hbl.cell (p := ⟨w.heap.size + 1, 0, none⟩) (by simp)).trans hR0
      have hR3 := (hbl.cell (p := ⟨w.heap.size + 1, 1, none⟩) (by simp)).trans hR1
      have hF2 := fun o => (hbl.frozen (p := ⟨w.heap.size + 1, o, none⟩) (by simp)).trans (hF0 o)
      have hw0 : Below (w.heap.size + 1 + 1) ((w.alloc (.cells #[.slice A n c, .slice E m d] 25)).alloc (.cells #[.slice none 0 0, .slice none 0 0] 25)) wr := hb.trans hbl
      have hszr := hbl.size
      clear hE0 hR0 hR1 hF0
      go_wp2_with fail
      refine (cloneI _ B _ _ _ es (((hE.alloc hB _).alloc (by simp; omega) _).below hw0 (by omega)) (by omega) hm).mono ?_
      rintro e w2 ⟨u, rfl, hownE, hb2⟩
      have hR4 := (hb2.cell (p := ⟨w.heap.size + 1, 0, none⟩) (by simp; omega)).trans hR2
      have hR5 := (hb2.cell (p := ⟨w.heap.size + 1, 1, none⟩) (by simp; omega)).trans hR3
      have hF4 := fun o => (hb2.frozen (p := ⟨w.heap.size + 1, o, none⟩) (by simp; omega)).trans (hF2 o)
      have how2 := own_below how hb2
      obtain ⟨E', d', rfl, -⟩ := Rd.of_own hownE
      go_wp2
      refine bodyPost_ret (v := .agg #[.slice A' n c', .slice E' m d']) (by simp [results, Try.results15, go_sem, hR4, hR5]) rfl ?_
      rw [mvTo_all _ _ _ _ (by have := hlen.out; omega)] at how2
      refine retO_of_own (ownsRow_setCell_below (ownsRow_setCell_below how2 (by simp) _) (by simp) _) (ownsRow_setCell_below (ownsRow_setCell_below hownE (by simp; omega) _) (by simp; omega) _) ?_
      exact (((((Below.refl _ w).alloc (Nat.le_refl _) _).alloc (by simp) _).trans (hw0.mono (by omega))).trans (hb2.mono (by omega))).setCell (by simp) _ |>.setCell (by simp) _
end Go.Proofs.Ytfpdbdbgemolgaa
