/- The walk of fleuronlaw03.OutlineTurns: it returns true, and what was there is as it was. -/
import Derived.Deep.RegionHeld3
import Derived.Test.YtfpdbdbgemolgaaDrawn
import Derived.Test.YtfpdbdbgemolgaaPure

namespace Go.Proofs.Ytfpdbdbgemolgaa
open Go.RowKit

theorem cellB {w w' : World} (hb : Below w.heap.size w w') {p : Addr} {v : Value} (h : w.cell? p = some v) : w'.cell? p = some v := (hb.cell (World.block_lt_of_cell? w p h)).trans h

theorem area_at (w : World) (B : Nat) (A E : Option Addr) (n c m d : Nat) (ps : List P3) (es : List Int) (z : Int) (hz : arAll ps (pcsF n 0 0 es) = z) (hA : Rd w B A n 3 (c3s ps)) (hE : Rd w B E m 1 (cIs es)) (hB : B ≤ w.heap.size) (hc : n ≤ c)
    (hn : c ≤ 9223372036854775807) (hm : m ≤ 9223372036854775807) :
    Calls Try.prog 22 #[.agg #[.slice A n c, .slice E m d]] w fun e w' => e = .returned (.int .i64 z) ∧ Below w.heap.size w w' := hz ▸ area_ok w B A E n c m d ps es hA hE hB hc hn hm

theorem right_at (w : World) (B : Nat) (A E : Option Addr) (n c m d : Nat) (ps : List P3) (es : List Int) (z : Bool) (hz : rightB ps es = z) (hA : Rd w B A n 3 (c3s ps)) (hE : Rd w B E m 1 (cIs es)) (hB : B ≤ w.heap.size) (hn : n ≤ 9223372036854775807) :
    Calls Try.prog 23 #[.agg #[.slice A n c, .slice E m d]] w fun e w' => e = .returned (.bool z) ∧ Below w.heap.size w w' := hz ▸ right_ok w B A E n c m d ps es hA hE hB hn

set_option maxRecDepth 100000 in
set_option maxHeartbeats 4000000 in
theorem turns_walk (w : World) (A E : Option Addr) (n c m d : Nat) (ps : List P3) (es : List Int) (x y : Int) (hA : Rd w w.heap.size A n 3 (c3s ps)) (hE : Rd w w.heap.size E m 1 (cIs es)) (hc : n ≤ c) (hc' : c ≤ 9223372036854775807)
    (hwf : ∀ p ∈ ps, wrap64 p.1 = p.1 ∧ wrap64 p.2.1 = p.2.1) :
    Calls Try.prog 5 #[.agg #[.slice A n c, .slice E m d], .int .i64 x, .int .i64 y] w fun e w' => e = .returned (.bool true) ∧ Below w.heap.size w w' := by
  by_cases hbig : 1500 < n ∨ 300 < m
  · go_enter Try.func5, Try.ntmps5
    go_wp2_with fail
    refine (big_yes _ A E n m c d hbig).mono ?_
    rintro e w1 ⟨rfl, hb1⟩
    go_wp2
    go_ret
    exact ⟨by simp, ((Below.refl _ w).alloc (Nat.le_refl _) _).trans (hb1.mono (by simp))⟩
  · have hn : n ≤ 1500 := by omega
    have hm : m ≤ 300 := by omega
    clear hbig
    have hlen := Lib.hid hA.len3
    have hsrt := Lib.hid (pcsF_srt n es 0 0)
    have Hwf := Lib.hid hwf
    clear hwf
    go_enter Try.func5, Try.ntmps5
    go_wp2_with fail
    refine (big_no _ A E n m c d hn hm).mono ?_
    rintro e w0 ⟨rfl, hb0⟩
    have hs0 := hb0.size
    simp only [World.size_alloc] at hs0
    have k0 : w0.cell? ⟨w.heap.size, 0, none⟩ = some (.slice A n c) := (hb0.cell (p := ⟨w.heap.size, 0, none⟩) (by simp)).trans (by simp [go_sem])
    have k1 : w0.cell? ⟨w.heap.size, 1, none⟩ = some (.slice E m d) := (hb0.cell (p := ⟨w.heap.size, 1, none⟩) (by simp)).trans (by simp [go_sem])
    have bw0 : Below w.heap.size w w0 := ((Below.refl _ w).alloc (Nat.le_refl _) _).trans (hb0.mono (by simp))
    have hz0 : w.heap.size < w0.heap.size := by omega
    clear hb0 hs0
    go_wp2_with fail
    refine (reversed_ok _ w.heap.size A E n c m d ps es (hA.below bw0 (Nat.le_refl _)) (hE.below bw0 (Nat.le_refl _)) (by omega) (by omega) (by omega)).mono ?_
    rintro e w1 ⟨A1, n1, c1, E1, m1, d1, rfl, hcr, hA1, hE1, hb1⟩
    have k10 := (hb1.cell (p := ⟨w.heap.size, 0, none⟩) hz0).trans k0
    have k11 := (hb1.cell (p := ⟨w.heap.size, 1, none⟩) hz0).trans k1
    have bw1 : Below w.heap.size w w1 := bw0.trans (hb1.mono (by omega))
    have hz1 : w.heap.size < w1.heap.size := by have := hb1.size; omega
    clear hb1 k0 k1
    go_wp2_with fail
    refine (moved_ok _ w.heap.size A E n c m d ps es x y ((hA.below bw1 (Nat.le_refl _)).alloc (by omega) _) ((hE.below bw1 (Nat.le_refl _)).alloc (by omega) _) (by simp; omega) (by omega) (by omega)).mono ?_
    rintro e w2 ⟨A2, n2, c2, E2, m2, d2, rfl, hcm, hA2, hE2, hb2⟩
    have kk : ∀ {p : Addr} {v : Value}, (w1.alloc (.cells #[.slice A1 n1 c1, .slice E1 m1 d1] 25)).cell? p = some v → w2.cell? p = some v := fun h => (hb2.cell (World.block_lt_of_cell? _ _ h)).trans h
    have k20 : w2.cell? ⟨w.heap.size, 0, none⟩ = some (.slice A n c) := kk ((World.cell?_alloc_lt _ _ _ (by simpa using hz1)).trans k10)
    have k21 : w2.cell? ⟨w.heap.size, 1, none⟩ = some (.slice E m d) := kk ((World.cell?_alloc_lt _ _ _ (by simpa using hz1)).trans k11)
    have k22 : w2.cell? ⟨w1.heap.size, 0, none⟩ = some (.slice A1 n1 c1) := kk (by simp [go_sem])
    have k23 : w2.cell? ⟨w1.heap.size, 1, none⟩ = some (.slice E1 m1 d1) := kk (by simp [go_sem])
    have bw2 : Below w.heap.size w w2 := (bw1.alloc (by omega) _).trans (hb2.mono (by simp; omega))
    have hz2 : w1.heap.size < w2.heap.size := by have := hb2.size; simp at this; omega
    have hA12 : Rd w2 w1.heap.size A1 n1 3 (c3s (revAll ps (pcsF n 0 0 es))) := (hA1.alloc (Nat.le_refl _) _).below hb2 (by simp)
    have hE12 : Rd w2 w1.heap.size E1 m1 1 (cIs es) := (hE1.alloc (Nat.le_refl _) _).below hb2 (by simp)
    obtain rfl : n1 = n := by rw [← hA12.len3, revAll_length, hA.len3]
    obtain rfl : m1 = m := by rw [← hE12.lenI, hE.lenI]
    obtain rfl : n1 = n2 := by rw [← hA2.len3, List.length_map, hA.len3]
    obtain rfl : m1 = m2 := by rw [← hE2.lenI, hE.lenI]
    clear hb2 k10 k11 hA1 hE1 kk
    go_wp2_with fail
    obtain ⟨W, hW⟩ : ∃ W, w2.alloc (.cells #[.slice A2 n1 c2, .slice E2 m1 d2] 25) = W := ⟨_, rfl⟩
    have bwW : Below w2.heap.size w2 W := by rw [← hW]; exact (Below.refl _ _).alloc (Nat.le_refl _) _
    have q0 : W.cell? ⟨w.heap.size, 0, none⟩ = some (.slice A n1 c) := cellB bwW k20
    have q1 : W.cell? ⟨w.heap.size, 1, none⟩ = some (.slice E m1 d) := cellB bwW k21
    have q2 : W.cell? ⟨w1.heap.size, 0, none⟩ = some (.slice A1 n1 c1) := cellB bwW k22
    have q3 : W.cell? ⟨w1.heap.size, 1, none⟩ = some (.slice E1 m1 d1) := cellB bwW k23
    have q4 : W.cell? ⟨w2.heap.size, 0, none⟩ = some (.slice A2 n1 c2) := by rw [← hW]; simp [go_sem]
    have q5 : W.cell? ⟨w2.heap.size, 1, none⟩ = some (.slice E2 m1 d2) := by rw [← hW]; simp [go_sem]
    have bw3 : Below w.heap.size w W := bw2.trans (bwW.mono bw2.size)
    have hRA : Rd W W.heap.size A1 n1 3 (c3s (revAll ps (pcsF n1 0 0 es))) := (hA12.below bwW (by omega)).mono (by have := bwW.size; omega)
    have hRE : Rd W W.heap.size E1 m1 1 (cIs es) := (hE12.below bwW (by omega)).mono (by have := bwW.size; omega)
    have hMA : Rd W W.heap.size A2 n1 3 (c3s (ps.map (mv x y))) := (hA2.below bwW (Nat.le_refl _)).mono bwW.size
    have hME : Rd W W.heap.size E2 m1 1 (cIs es) := (hE2.below bwW (Nat.le_refl _)).mono bwW.size
    have hOA : Rd W W.heap.size A n1 3 (c3s ps) := (hA.below bw3 (Nat.le_refl _)).mono bw3.size
    have hOE : Rd W W.heap.size E m1 1 (cIs es) := (hE.below bw3 (Nat.le_refl _)).mono bw3.size
    rw [hW]
    clear hW k20 k21 k22 k23 hA2 hE2 hA12 hE12 bwW bw2 hz2 bw1 hz1 bw0 hz0
    have hrr : Hid (revAll (revAll ps (pcsF n1 0 0 es)) (pcsF n1 0 0 es) = ps) := revAll_revAll ps _ 0 (by rw [hlen.out]; exact hsrt.out)
    have har : Hid (arAll (revAll ps (pcsF n1 0 0 es)) (pcsF n1 0 0 es) = IntKind.i64.wrap (-arAll ps (pcsF n1 0 0 es))) := by
      rw [IntWalk.i64_left, ← Int.zero_sub]
      exact area_rev ps _ 0 (by rw [hlen.out]; exact hsrt.out)
    have ham : Hid (arAll (ps.map (mv x y)) (pcsF n1 0 0 es) = arAll ps (pcsF n1 0 0 es)) := area_mv x y ps _
    have hrt : Hid (rightB (revAll ps (pcsF n1 0 0 es)) es = rightB ps es) := right_rev ps es _ 0 (by rw [hlen.out]; exact hsrt.out)
    have hmb : Hid ((ps.map (mv x y)).map (mv (IntKind.i64.wrap (-x)) (IntKind.i64.wrap (-y))) = ps) := by
      rw [IntWalk.i64_left, IntWalk.i64_left, ← Int.zero_sub x, ← Int.zero_sub y]
      exact mv_back x y ps Hwf.out
    generalize hZ : arAll ps (pcsF n1 0 0 es) = Z at *
    have HZ := Lib.hid hZ
    clear hZ hsrt Hwf
    generalize hrv : revAll ps (pcsF n1 0 0 es) = rv at *
    clear hrv
    generalize ps.map (mv x y) = mm at *
    have tok1 : True := trivial
    have tok2 : True := trivial
    go_region_held3 (fun w' => w'.cell? ⟨w.heap.size, 0, none⟩ = some (.slice A n1 c) ∧ w'.cell? ⟨w.heap.size, 1, none⟩ = some (.slice E m1 d) ∧ w'.cell? ⟨w1.heap.size, 0, none⟩ = some (.slice A1 n1 c1) ∧ w'.cell? ⟨w1.heap.size, 1, none⟩ = some (.slice E1 m1 d1) ∧ w'.cell? ⟨w2.heap.size, 0, none⟩ = some (.slice A2 n1 c2) ∧ w'.cell? ⟨w2.heap.size, 1, none⟩ = some (.slice E2 m1 d2))
      (first
        | go_keep
        | (go_split_ands
           exact ⟨cellB hbL (by assumption), cellB hbL (by assumption), cellB hbL (by assumption), cellB hbL (by assumption), cellB hbL (by assumption), cellB hbL (by assumption)⟩))
      (first
        | (go_at_call 17; refine (reversed_ok _ W.heap.size A1 E1 n1 c1 m1 d1 rv es hRA.drew hRE.drew (by simp) (by omega) (by omega)).mono ?_; rintro e w4 ⟨A4, n4, c4, E4, m4, d4, rfl, -, hA4, hE4, hbL⟩; have b4 : Below W.heap.size W w4 := (Below.refl _ W).drew.trans hbL; (obtain rfl : n1 = n4 := (by rw [← hA4.len3, revAll_length, hRA.len3])); (obtain rfl : m1 = m4 := (by rw [← hE4.lenI, hRE.lenI])); rw [hrr.out] at hA4)
        | (go_at_call 14; have _t := tok1; refine (same_eq _ w4.heap.size A4 A E4 E n1 m1 c4 d4 c d ps es hA4 ((hOA.below b4 (Nat.le_refl _)).mono b4.size) hE4 ((hOE.below b4 (Nat.le_refl _)).mono b4.size) (Nat.le_refl _) (by omega) (by omega)).mono ?_; rintro e w5 ⟨rfl, hbL⟩; have b5 : Below W.heap.size W w5 := b4.trans (hbL.mono b4.size); clear tok1 _t)
        | (go_at_call 22; have _t := tok2; refine (area_at _ W.heap.size A1 E1 n1 c1 m1 d1 rv es _ har.out (hRA.below b5 (Nat.le_refl _)) (hRE.below b5 (Nat.le_refl _)) b5.size hcr.1 hcr.2 (by omega)).mono ?_; rintro e w6 ⟨rfl, hbL⟩; have b6 : Below W.heap.size W w6 := b5.trans (hbL.mono b5.size); clear tok2 _t)
        | (go_at_call 22; refine (area_at _ W.heap.size A E n1 c m1 d ps es Z HZ.out (hOA.below b6 (Nat.le_refl _)) (hOE.below b6 (Nat.le_refl _)) b6.size hc hc' (by omega)).mono ?_; rintro e w7 ⟨rfl, hbL⟩; have b7 : Below W.heap.size W w7 := b6.trans (hbL.mono b6.size))
        | (go_at_call 15; refine (moved_ok _ W.heap.size A2 E2 n1 c2 m1 d2 mm es (IntKind.i64.wrap (-x)) (IntKind.i64.wrap (-y)) (hMA.below b7 (Nat.le_refl _)) (hME.below b7 (Nat.le_refl _)) b7.size (by omega) (by omega)).mono ?_; rintro e w8 ⟨A8, n8, c8, E8, m8, d8, rfl, -, hA8, hE8, hbL⟩; have b8 : Below W.heap.size W w8 := b7.trans (hbL.mono b7.size); (obtain rfl : n1 = n8 := (by rw [← hA8.len3, List.length_map, hMA.len3])); (obtain rfl : m1 = m8 := (by rw [← hE8.lenI, hME.lenI])); rw [hmb.out] at hA8)
        | (go_at_call 14; refine (same_eq _ w8.heap.size A8 A E8 E n1 m1 c8 d8 c d ps es hA8 ((hOA.below b8 (Nat.le_refl _)).mono b8.size) hE8 ((hOE.below b8 (Nat.le_refl _)).mono b8.size) (Nat.le_refl _) (by omega) (by omega)).mono ?_; rintro e w9 ⟨rfl, hbL⟩; have b9 : Below W.heap.size W w9 := b8.trans (hbL.mono b8.size)))
    have r0 := cellB b9 q0
    have r1 := cellB b9 q1
    have r2 := cellB b9 q2
    have r3 := cellB b9 q3
    have r4 := cellB b9 q4
    have r5 := cellB b9 q5
    clear q0 q1 q2 q3 q4 q5
    have tok3 : True := trivial
    have tok4 : True := trivial
    go_wp2_with fail
    go_region_held3 (fun w' => w'.cell? ⟨w.heap.size, 0, none⟩ = some (.slice A n1 c) ∧ w'.cell? ⟨w.heap.size, 1, none⟩ = some (.slice E m1 d) ∧ w'.cell? ⟨w1.heap.size, 0, none⟩ = some (.slice A1 n1 c1) ∧ w'.cell? ⟨w1.heap.size, 1, none⟩ = some (.slice E1 m1 d1) ∧ w'.cell? ⟨w2.heap.size, 0, none⟩ = some (.slice A2 n1 c2) ∧ w'.cell? ⟨w2.heap.size, 1, none⟩ = some (.slice E2 m1 d2))
      (first
        | go_keep
        | (go_split_ands
           exact ⟨cellB hbL (by assumption), cellB hbL (by assumption), cellB hbL (by assumption), cellB hbL (by assumption), cellB hbL (by assumption), cellB hbL (by assumption)⟩))
      (first
        | (go_at_call 13; refine (drawn_ok _).mono ?_; rintro e w10 ⟨rfl, hbL⟩; have b10 : Below W.heap.size W w10 := b9.drew.trans (hbL.mono b9.size))
        | (go_at_call 22; have _t := tok3; refine (area_at _ W.heap.size A2 E2 n1 c2 m1 d2 mm es Z ham.out (hMA.below b10 (Nat.le_refl _)) (hME.below b10 (Nat.le_refl _)) b10.size hcm.1 hcm.2 (by omega)).mono ?_; rintro e w11 ⟨rfl, hbL⟩; have b11 : Below W.heap.size W w11 := b10.trans (hbL.mono b10.size); clear tok3 _t)
        | (go_at_call 22; refine (area_at _ W.heap.size A E n1 c m1 d ps es Z HZ.out (hOA.below b11 (Nat.le_refl _)) (hOE.below b11 (Nat.le_refl _)) b11.size hc hc' (by omega)).mono ?_; rintro e w12 ⟨rfl, hbL⟩; have b12 : Below W.heap.size W w12 := b11.trans (hbL.mono b11.size))
        | (go_at_call 23; have _t := tok4; refine (right_at _ W.heap.size A1 E1 n1 c1 m1 d1 rv es _ hrt.out (hRA.below b12 (Nat.le_refl _)) (hRE.below b12 (Nat.le_refl _)) b12.size (by omega)).mono ?_; rintro e w13 ⟨rfl, hbL⟩; have b13 : Below W.heap.size W w13 := b12.trans (hbL.mono b12.size); clear tok4 _t)
        | (go_at_call 23; refine (right_at _ W.heap.size A E n1 c m1 d ps es _ rfl (hOA.below b13 (Nat.le_refl _)) (hOE.below b13 (Nat.le_refl _)) b13.size (by omega)).mono ?_; rintro e w14 ⟨rfl, hbL⟩; have b14 : Below W.heap.size W w14 := b13.trans (hbL.mono b13.size)))
    go_wp2
    go_ret
    exact ⟨by simp, bw3.trans (b14.mono bw3.size)⟩
end Go.Proofs.Ytfpdbdbgemolgaa
