/- The walk of fleuronlaw03.OutlineLines: it returns true, and what was there is as it was. -/
import Derived.Deep.RegionLaw
import Derived.Test.YtfpdbdbgemolgaaDrawn
import Derived.Test.YtfpdbdbgemolgaaRefLines
namespace Go.Proofs.Ytfpdbdbgemolgaa
open Go.RowKit

theorem rowFrom_len (rg : List P3) : ∀ k i, (rowFrom rg k i).length ≤ 8 * k := by
  intro k
  induction k with
  | zero => intro i; simp [rowFrom]
  | succ k ih =>
    intro i
    rw [rowFrom]
    split
    · split
      · split
        · rename_i h1 h2; have := ih (i + 1); simp; omega
        · have := ih (i + 2); simp; omega
      · simp
    · simp
theorem rowL_len (rg : List P3) : (rowL rg).length ≤ 8 * rg.length + 1 := by
  have := rowFrom_len rg rg.length 0
  unfold rowL rowT
  split <;> simp <;> omega
theorem linesL_len (sp : List P3) (l : List (Nat × Nat × Nat)) (n : Nat) (hn : sp.length ≤ n) : ∀ r ∈ linesL sp l, r.length ≤ 16 * n + 1 := by
  intro r hr
  simp only [linesL, List.mem_map] at hr
  obtain ⟨p, _, rfl⟩ := hr
  have h1 := rowL_len (ringL (seg sp p.2.1 p.2.2))
  rw [ringL_len] at h1
  have h2 := ringTo_len (seg sp p.2.1 p.2.2) (seg sp p.2.1 p.2.2).length
  have h3 : (seg sp p.2.1 p.2.2).length ≤ sp.length := by simp [seg]; omega
  omega

set_option maxRecDepth 100000 in
set_option maxHeartbeats 4000000 in
theorem lines_walk (w : World) (A O E : Option Addr) (n c p co m d : Nat) (pts : List P2) (on : List Bool) (es : List Int) (hA : Rd w w.heap.size A n 2 (c2s pts)) (hO : Rd w w.heap.size O p 1 (cBs on)) (hE : Rd w w.heap.size E m 1 (cIs es))
    (hc : n ≤ c) (hco : p ≤ co) (hc' : c ≤ 9223372036854775807) (hco' : co ≤ 9223372036854775807) :
    Calls Try.prog 4 #[.slice A n c, .slice O p co, .slice E m d] w fun e w' => e = .returned (.bool true) ∧ Below w.heap.size w w' := by
  by_cases hn : 1500 < n
  · go_enter Try.func4, Try.ntmps4
    go_wp2
    go_ret
    exact ⟨rfl, Below.refl _ _⟩
  · have hd : decide ((1500 : Int) < (n : Int)) = false := by simp; omega
    by_cases hm : 300 < m
    · go_enter Try.func4, Try.ntmps4
      go_wp2
      go_ret
      exact ⟨by simp, Below.refl _ _⟩
    · have hdm : decide ((300 : Int) < (m : Int)) = false := by simp; omega
      by_cases hp : p = n
      · subst hp
        go_enter Try.func4, Try.ntmps4
        go_wp2_with fail
        refine (drawn_ok _).mono ?_
        rintro e w1 ⟨rfl, hb1⟩
        go_wp2_with fail
        refine (lines_ok w1 w.heap.size A O E p c co m d pts on es (hA.below hb1 (Nat.le_refl _)) (hO.below hb1 (Nat.le_refl _)) (hE.below hb1 (Nat.le_refl _)) hb1.size (by omega) (by omega)).mono ?_
        rintro e w2 ⟨v2, hs2, rfl, hown2, hr2, hb2⟩
        have hbw2 : Below w.heap.size w w2 := hb1.trans (hb2.mono hb1.size)
        go_wp2_with fail
        refine (refLines_ok w2 w.heap.size A O E p c co m d pts on es (hA.below hbw2 (Nat.le_refl _)) (hO.below hbw2 (Nat.le_refl _)) (hE.below hbw2 (Nat.le_refl _)) hbw2.size (by omega) (by omega) hc hco hc' hco').mono ?_
        rintro e w3 ⟨v3, hs3, rfl, hown3, hr3, hb3⟩
        have hbw3 : Below w.heap.size w w3 := hbw2.trans (hb3.mono hbw2.size)
        have hown23 := own_below hown2 hb3
        have hr23 : RowsIn2 w3 hs2 (linesL (spz pts on) (pcsF p 0 0 es)) := rowsIn_kept hr2 (fun A k r h => h.below hb3)
        obtain ⟨A2, c2, rfl, hd2⟩ := Rd.of_own hown23
        obtain ⟨A3, c3, rfl, hd3⟩ := Rd.of_own hown3
        have hlen : hs3.length = hs2.length := by rw [hr3.1, hr23.1]
        rw [hlen] at hd3
        have hl1 : hs2.length ≤ 300 := by
          rw [hr23.1]
          have h1 := pcsF_length p es 0 0
          have h2 := hE.lenI
          simp only [linesL, List.length_map]
          omega
        have hll := linesL_len (spz pts on) (pcsF p 0 0 es) p (by rw [spz_length pts on p hA.len2 hO.lenB]; omega)
        have Hll := Lib.hid hll
        rw [hlen]
        clear hll hlen hown2 hown3 hown23 hr2 hb1 hb2 hb3 hbw2
        generalize linesL (spz pts on) (pcsF p 0 0 es) = rows at *
        go_wp2_with fail
        refine (sameRows_eq w3 A2 A3 hs2.length c2 c3 hs2 hs3 rows hd2 hd3 hr23 hr3 (by omega) (fun r hr => by have := Hll.out r hr; omega)).mono ?_
        rintro e w4 ⟨rfl, k, rfl⟩
        go_wp2
        go_ret
        exact ⟨by simp, below_drewN hbw3 _⟩
      · go_enter Try.func4, Try.ntmps4
        go_wp2_with fail
        refine (drawn_ok _).mono ?_
        rintro e w1 ⟨rfl, hb1⟩
        go_wp2_with fail
        refine (lines_no w1 A O E n c p co m d hp).mono ?_
        rintro e w2 ⟨rfl, hb2⟩
        have hbw2 : Below w.heap.size w w2 := hb1.trans (hb2.mono hb1.size)
        go_wp2_with fail
        refine (refLines_no w2 A O E n c p co m d hp).mono ?_
        rintro e w3 ⟨v3, rfl, hown3, hb3⟩
        have hbw3 : Below w.heap.size w w3 := hbw2.trans (hb3.mono hbw2.size)
        obtain ⟨A3, c3, rfl, hd3⟩ := Rd.of_own hown3
        clear hb1 hb2 hb3 hbw2 hp
        go_wp2_with fail
        refine (sameRows_eq w3 none A3 0 0 c3 [] [] [] (Rd.nil _ _ _ _) hd3 ⟨rfl, fun i r h => by simp at h⟩ ⟨rfl, fun i r h => by simp at h⟩ (by omega) (fun r hr => by simp at hr)).mono ?_
        rintro e w4 ⟨rfl, k, rfl⟩
        go_wp2
        go_ret
        exact ⟨by simp, below_drewN hbw3 _⟩
end Go.Proofs.Ytfpdbdbgemolgaa
