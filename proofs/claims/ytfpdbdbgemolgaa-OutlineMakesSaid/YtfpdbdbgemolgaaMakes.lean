/- The walk of fleuronlaw03.OutlineMakes: it returns true, and what was there is as it was. -/
import Derived.Deep.RegionLaw
import Derived.Test.YtfpdbdbgemolgaaDrawn
import Derived.Test.YtfpdbdbgemolgaaRefMoved
import Derived.Test.YtfpdbdbgemolgaaRefReversed
namespace Go.Proofs.Ytfpdbdbgemolgaa
open Go.RowKit

set_option maxRecDepth 100000 in
set_option maxHeartbeats 4000000 in
theorem makes_walk (w : World) (A E : Option Addr) (n c m d : Nat) (ps : List P3) (es : List Int) (x y : Int) (hA : Rd w w.heap.size A n 3 (c3s ps)) (hE : Rd w w.heap.size E m 1 (cIs es)) :
    Calls Try.prog 3 #[.agg #[.slice A n c, .slice E m d], .int .i64 x, .int .i64 y] w fun e w' => e = .returned (.bool true) ∧ Below w.heap.size w w' := by
  by_cases hbig : 1500 < n ∨ 300 < m
  · go_enter Try.func3, Try.ntmps3
    go_wp2_with fail
    refine (big_yes _ A E n m c d hbig).mono ?_
    rintro e w1 ⟨rfl, hb1⟩
    go_wp2
    go_ret
    exact ⟨by simp, ((Below.refl _ w).alloc (Nat.le_refl _) _).trans (hb1.mono (by simp))⟩
  · have hn : n ≤ 1500 := by omega
    have hm : m ≤ 300 := by omega
    clear hbig
    go_enter Try.func3, Try.ntmps3
    go_wp2_with fail
    refine (big_no _ A E n m c d hn hm).mono ?_
    rintro e w0 ⟨rfl, hb0⟩
    have hs0 := hb0.size
    simp only [World.size_alloc] at hs0
    have k0 : w0.cell? ⟨w.heap.size, 0, none⟩ = some (.slice A n c) := (hb0.cell (p := ⟨w.heap.size, 0, none⟩) (by simp)).trans (by simp [go_sem])
    have k1 : w0.cell? ⟨w.heap.size, 1, none⟩ = some (.slice E m d) := (hb0.cell (p := ⟨w.heap.size, 1, none⟩) (by simp)).trans (by simp [go_sem])
    have bw0 : Below w.heap.size w w0 := ((Below.refl _ w).alloc (Nat.le_refl _) _).trans (hb0.mono (by simp))
    have hA0 : Rd w0 w.heap.size A n 3 (c3s ps) := hA.below bw0 (Nat.le_refl _)
    have hE0 : Rd w0 w.heap.size E m 1 (cIs es) := hE.below bw0 (Nat.le_refl _)
    have hz0 : w.heap.size < w0.heap.size := by omega
    clear hb0 hs0
    have tok1 : True := trivial
    go_wp2_with fail
    go_region_law (first
      | (go_simp; go_at_call 13; refine (drawn_ok _).mono ?_; rintro e w1 ⟨rfl, hb1⟩; have z1 : w0.heap.size ≤ w1.heap.size := hb1.size; have k10 : w1.cell? ⟨w.heap.size, 0, none⟩ = some (.slice A n c) := (hb1.cell (p := ⟨w.heap.size, 0, none⟩) hz0).trans k0; have k11 : w1.cell? ⟨w.heap.size, 1, none⟩ = some (.slice E m d) := (hb1.cell (p := ⟨w.heap.size, 1, none⟩) hz0).trans k1; have hA1 : Rd w1 w.heap.size A n 3 (c3s ps) := Rd.below (Rd.drew hA0) hb1 (Nat.le_of_lt hz0); have hE1 : Rd w1 w.heap.size E m 1 (cIs es) := Rd.below (Rd.drew hE0) hb1 (Nat.le_of_lt hz0); have bw1 : Below w.heap.size w w1 := bw0.drew.trans (hb1.mono (Nat.le_of_lt hz0)); clear hb1)
      | (go_simp; go_at_call 15; refine (moved_ok _ w.heap.size A E n c m d ps es x y hA1 hE1 (by omega) (by omega) (by omega)).mono ?_; rintro e w2 ⟨A2, n2, c2, E2, m2, d2, rfl, -, hA2, hE2, hb2⟩; have z2 : w1.heap.size ≤ w2.heap.size := hb2.size; have k20 : w2.cell? ⟨w.heap.size, 0, none⟩ = some (.slice A n c) := (hb2.cell (p := ⟨w.heap.size, 0, none⟩) (by simp; omega)).trans k10; have k21 : w2.cell? ⟨w.heap.size, 1, none⟩ = some (.slice E m d) := (hb2.cell (p := ⟨w.heap.size, 1, none⟩) (by simp; omega)).trans k11; have hA1' : Rd w2 w.heap.size A n 3 (c3s ps) := Rd.below hA1 hb2 (by omega); have hE1' : Rd w2 w.heap.size E m 1 (cIs es) := Rd.below hE1 hb2 (by omega); have bw2 : Below w.heap.size w w2 := bw1.trans (hb2.mono (by omega)); clear hb2)
      | (go_simp; go_at_call 16; refine (refMoved_ok _ w.heap.size A E n c m d ps es x y hA1' hE1' (by omega) (by omega) (by omega)).mono ?_; rintro e w3 ⟨A3, n3, c3, E3, m3, d3, rfl, -, hA3, hE3, hb3⟩; have z3 : w2.heap.size ≤ w3.heap.size := hb3.size; have k30 : w3.cell? ⟨w.heap.size, 0, none⟩ = some (.slice A n c) := (hb3.cell (p := ⟨w.heap.size, 0, none⟩) (by simp; omega)).trans k20; have k31 : w3.cell? ⟨w.heap.size, 1, none⟩ = some (.slice E m d) := (hb3.cell (p := ⟨w.heap.size, 1, none⟩) (by simp; omega)).trans k21; have hA23 : Rd w3 w3.heap.size A2 n2 3 (c3s (ps.map (mv x y))) := (Rd.below hA2 hb3 (Nat.le_refl _)).mono z3; have hE23 : Rd w3 w3.heap.size E2 m2 1 (cIs es) := (Rd.below hE2 hb3 (Nat.le_refl _)).mono z3; obtain rfl : n2 = n3 := hA23.len3.symm.trans hA3.len3; obtain rfl : m2 = m3 := hE23.lenI.symm.trans hE3.lenI; have hA13 : Rd w3 w.heap.size A n 3 (c3s ps) := Rd.below hA1' hb3 (by omega); have hE13 : Rd w3 w.heap.size E m 1 (cIs es) := Rd.below hE1' hb3 (by omega); have bw3 : Below w.heap.size w w3 := bw2.trans (hb3.mono (by omega)); have hn2 : n2 ≤ 1500 := (by have h1 := hA3.len3; have h2 := hA13.len3; simp at h1; omega); have hm2 : m2 ≤ 300 := (by have h1 := hE3.lenI; have h2 := hE13.lenI; omega); clear hb3)
      | (go_simp; go_at_call 14; have _t := tok1; refine (same_eq _ w3.heap.size A2 A3 E2 E3 n2 m2 c2 d2 c3 d3 (ps.map (mv x y)) es hA23 hA3 hE23 hE3 (Nat.le_refl _) (by omega) (by omega)).mono ?_; rintro e w4 ⟨rfl, hb4⟩; have z4 : w3.heap.size ≤ w4.heap.size := hb4.size; have k40 : w4.cell? ⟨w.heap.size, 0, none⟩ = some (.slice A n c) := (hb4.cell (p := ⟨w.heap.size, 0, none⟩) (by simp; omega)).trans k30; have k41 : w4.cell? ⟨w.heap.size, 1, none⟩ = some (.slice E m d) := (hb4.cell (p := ⟨w.heap.size, 1, none⟩) (by simp; omega)).trans k31; have hA14 : Rd w4 w.heap.size A n 3 (c3s ps) := Rd.below hA13 hb4 (by omega); have hE14 : Rd w4 w.heap.size E m 1 (cIs es) := Rd.below hE13 hb4 (by omega); have bw4 : Below w.heap.size w w4 := bw3.trans (hb4.mono (by omega)); clear hb4 tok1 _t)
      | (go_simp; go_at_call 17; refine (reversed_ok _ w.heap.size A E n c m d ps es hA14 hE14 (by omega) (by omega) (by omega)).mono ?_; rintro e w5 ⟨A5, n5, c5, E5, m5, d5, rfl, -, hA5, hE5, hb5⟩; have z5 : w4.heap.size ≤ w5.heap.size := hb5.size; have k50 : w5.cell? ⟨w.heap.size, 0, none⟩ = some (.slice A n c) := (hb5.cell (p := ⟨w.heap.size, 0, none⟩) (by simp; omega)).trans k40; have k51 : w5.cell? ⟨w.heap.size, 1, none⟩ = some (.slice E m d) := (hb5.cell (p := ⟨w.heap.size, 1, none⟩) (by simp; omega)).trans k41; have hA15 : Rd w5 w.heap.size A n 3 (c3s ps) := Rd.below hA14 hb5 (by omega); have hE15 : Rd w5 w.heap.size E m 1 (cIs es) := Rd.below hE14 hb5 (by omega); have bw5 : Below w.heap.size w w5 := bw4.trans (hb5.mono (by omega)); clear hb5)
      | (go_simp; go_at_call 18; refine (refReversed_ok _ w.heap.size A E n c m d ps es hA15 hE15 (by omega) (by omega) (by omega)).mono ?_; rintro e w6 ⟨A6, n6, c6, E6, m6, d6, rfl, -, hA6, hE6, hb6⟩; have z6 : w5.heap.size ≤ w6.heap.size := hb6.size; have hA56 : Rd w6 w6.heap.size A5 n5 3 (c3s (revAll ps (pcsF n 0 0 es))) := (Rd.below hA5 hb6 (Nat.le_refl _)).mono z6; have hE56 : Rd w6 w6.heap.size E5 m5 1 (cIs es) := (Rd.below hE5 hb6 (Nat.le_refl _)).mono z6; obtain rfl : n5 = n6 := hA56.len3.symm.trans hA6.len3; obtain rfl : m5 = m6 := hE56.lenI.symm.trans hE6.lenI; have hn5 : n5 ≤ 1500 := (by have h1 := hA6.len3; have h2 := hA15.len3; rw [revAll_length] at h1; omega); have hm5 : m5 ≤ 300 := (by have h1 := hE6.lenI; have h2 := hE15.lenI; omega); have bw6 : Below w.heap.size w w6 := bw5.trans (hb6.mono (by omega)); clear hb6)
      | (go_simp; go_at_call 14; refine (same_eq _ w6.heap.size A5 A6 E5 E6 n5 m5 c5 d5 c6 d6 (revAll ps (pcsF n 0 0 es)) es hA56 hA6 hE56 hE6 (Nat.le_refl _) (by omega) (by omega)).mono ?_; rintro e w7 ⟨rfl, hb7⟩; have bw7 : Below w.heap.size w w7 := bw6.trans (hb7.mono (by omega)); clear hb7))
    all_goals
      go_wp2
      go_ret
      exact ⟨by simp [Act.put], bw7⟩
end Go.Proofs.Ytfpdbdbgemolgaa
