/- The walk of fleuronlaw03.OutlineTells: it returns true, and what was there is as it was. -/
import Derived.Test.YtfpdbdbgemolgaaRefBox
import Derived.Test.YtfpdbdbgemolgaaRefRight
import Derived.Test.YtfpdbdbgemolgaaRefArea
import Derived.Test.YtfpdbdbgemolgaaBoxes
namespace Go.Proofs.Ytfpdbdbgemolgaa
open Go.RowKit

theorem refBox_at (w : World) (B : Nat) (A E : Option Addr) (n c m d : Nat) (ps : List P3) (lo hi : P2) (z : Bool) (h1 : lowP ps = lo) (h2 : highP ps = hi) (h3 : decide (0 < ps.length) = z) (hA : Rd w B A n 3 (c3s ps)) (hB : B ≤ w.heap.size) (hn : n ≤ 9223372036854775807) :
    Calls Try.prog 29 #[.agg #[.slice A n c, .slice E m d]] w fun e w' => e = .returned (.tuple #[.agg #[.int .i64 lo.1, .int .i64 lo.2, .bool false], .agg #[.int .i64 hi.1, .int .i64 hi.2, .bool false], .bool z]) ∧ Below w.heap.size w w' := by
  subst h1 h2 h3
  exact refBox_ok w B A E n c m d ps hA hB hn

theorem refRight_at (w : World) (B : Nat) (A E : Option Addr) (n c m d : Nat) (ps : List P3) (es : List Int) (z : Bool) (hz : rightB ps es = z) (hA : Rd w B A n 3 (c3s ps)) (hE : Rd w B E m 1 (cIs es)) (hB : B ≤ w.heap.size) (hn : n ≤ 9223372036854775807) :
    Calls Try.prog 30 #[.agg #[.slice A n c, .slice E m d]] w fun e w' => e = .returned (.bool z) ∧ Below w.heap.size w w' := hz ▸ refRight_ok w B A E n c m d ps es hA hE hB hn
theorem refArea_at (w : World) (B : Nat) (A E : Option Addr) (n c m d : Nat) (ps : List P3) (es : List Int) (z : Int) (hz : arAll ps (pcsF n 0 0 es) = z) (hA : Rd w B A n 3 (c3s ps)) (hE : Rd w B E m 1 (cIs es)) (hB : B ≤ w.heap.size) (hc : n ≤ c) (hc' : c ≤ 9223372036854775807) (hn : n ≤ 100000) (hm : m ≤ 100000) :
    Calls Try.prog 31 #[.agg #[.slice A n c, .slice E m d]] w fun e w' => e = .returned (.int .i64 z) ∧ Below w.heap.size w w' := hz ▸ refArea_ok w B A E n c m d ps es hA hE hB hc hc' hn hm

set_option maxRecDepth 100000 in
set_option maxHeartbeats 8000000 in
theorem tells_walk (w : World) (A E : Option Addr) (n c m d : Nat) (ps : List P3) (es : List Int) (hA : Rd w w.heap.size A n 3 (c3s ps)) (hE : Rd w w.heap.size E m 1 (cIs es)) (hc : n ≤ c) (hc' : c ≤ 9223372036854775807) :
    Calls Try.prog 8 #[.agg #[.slice A n c, .slice E m d]] w fun e w' => e = .returned (.bool true) ∧ Below w.heap.size w w' := by
  by_cases hbig : 1500 < n ∨ 300 < m
  · go_enter Try.func8, Try.ntmps8
    go_wp2_with fail
    refine (big_yes _ A E n m c d hbig).mono ?_
    rintro e w1 ⟨rfl, hb1⟩
    go_wp2
    go_ret
    exact ⟨by simp, ((Below.refl _ w).alloc (Nat.le_refl _) _).trans (hb1.mono (by simp))⟩
  · have hn : n ≤ 1500 := by omega
    have hm : m ≤ 300 := by omega
    clear hbig
    have hlen := Lib.hid hA.len3
    have hpl : (contL ps (pcsF n 0 0 es)).length ≤ 300 := by
      have h1 := pcsF_length n es 0 0
      have h2 := hE.lenI
      simp only [contL, List.length_map]
      omega
    have hcl : ∀ r ∈ contL ps (pcsF n 0 0 es), r.length ≤ 1500 := fun r hr => by
      simp only [contL, List.mem_map] at hr
      obtain ⟨p, hp, rfl⟩ := hr
      obtain ⟨-, h1, h2⟩ := pcsF_mem n es 0 0 p hp
      rw [seg_length ps p.2.1 p.2.2 (by rw [hlen.out]; exact h2)]
      omega
    have Hcl := Lib.hid hcl
    clear hcl
    obtain ⟨lx, ly, hlo⟩ : ∃ lx ly, lowP ps = (lx, ly) := ⟨_, _, rfl⟩
    obtain ⟨ux, uy, hhi⟩ : ∃ ux uy, highP ps = (ux, uy) := ⟨_, _, rfl⟩
    obtain ⟨zz, hz⟩ : ∃ zz, decide (0 < ps.length) = zz := ⟨_, rfl⟩
    obtain ⟨RB, hRB⟩ : ∃ RB, rightB ps es = RB := ⟨_, rfl⟩
    obtain ⟨AR, hAR⟩ : ∃ AR, arAll ps (pcsF n 0 0 es) = AR := ⟨_, rfl⟩
    have Hlo := Lib.hid hlo
    have Hhi := Lib.hid hhi
    have Hz := Lib.hid hz
    have HRB := Lib.hid hRB
    have HAR := Lib.hid hAR
    clear hlo hhi hz hRB hAR
    go_enter Try.func8, Try.ntmps8
    go_wp2_with fail
    refine (big_no _ A E n m c d hn hm).mono ?_
    rintro e w0 ⟨rfl, hb0⟩
    have hO0 : Bk w0 w.heap.size 25 #[.slice A n c, .slice E m d] := (hb0.block _ (by simp)).trans (Bk.new _ _ _)
    have bw0 : Below w.heap.size w w0 := ((Below.refl _ w).alloc (Nat.le_refl _) _).trans (hb0.mono (by simp))
    have k0 : w0.cell? ⟨w.heap.size, 0, none⟩ = some (.slice A n c) := hO0.cell 0
    have k1 : w0.cell? ⟨w.heap.size, 1, none⟩ = some (.slice E m d) := hO0.cell 1
    clear hb0
    go_wp2_with fail
    refine (told_ok w0 w.heap.size A E n c m d ps es (hA.below bw0 (Nat.le_refl _)) (hE.below bw0 (Nat.le_refl _)) bw0.size (by omega) (by omega)).mono ?_
    rintro e w1 ⟨v1, hs1, rfl, hown1, hr1, hb1⟩
    have hO1 := hO0.below hb1
    have bw1 : Below w.heap.size w w1 := bw0.trans (hb1.mono bw0.size)
    have k10 : w1.cell? ⟨w.heap.size, 0, none⟩ = some (.slice A n c) := hO1.cell 0
    have k11 : w1.cell? ⟨w.heap.size, 1, none⟩ = some (.slice E m d) := hO1.cell 1
    obtain ⟨A1, c1, rfl, -⟩ := Rd.of_own hown1
    clear hb1 k0 k1
    go_wp2_with fail
    refine (refContours_ok w1 w.heap.size A E n c m d ps es (hA.below bw1 (Nat.le_refl _)) (hE.below bw1 (Nat.le_refl _)) bw1.size hc hc' (by omega) (by omega)).mono ?_
    rintro e w2 ⟨v2, hs2, rfl, hown2, hr2, hb2⟩
    have hO2 := hO1.below hb2
    have bw2 : Below w.heap.size w w2 := bw1.trans (hb2.mono bw1.size)
    have hown12 := own_below hown1 hb2
    have hr12 : RowsIn3 w2 hs1 (contL ps (pcsF n 0 0 es)) := rows3_kept hr1 (fun A k r h => h.below hb2)
    obtain ⟨A2, c2, rfl, hd2⟩ := Rd.of_own hown2
    obtain ⟨A1', c1', e1, hd1⟩ := Rd.of_own hown12
    simp only [Value.slice.injEq, true_and] at e1
    obtain ⟨rfl, rfl⟩ := e1
    generalize contL ps (pcsF n 0 0 es) = cts at *
    have hl1 := hr12.1
    have hl2 := hr2.1
    generalize hL : cts.length = L at *
    rw [hl1] at hd1 ⊢
    rw [hl2] at hd2 ⊢
    have HL := Lib.hid hL
    clear hL hl1 hl2 hb2 k10 k11 hown1 hown2 hown12 hr1
    have hne : ((L : Int) != (L : Int)) = false := by simp
    go_wp2_with fail
    go_loopw [6] (fun i wr => ∃ k : Nat, k ≤ L ∧ i = .int .i64 k ∧ Hid (∃ q, wr = w2.drewN q)) (fun i _ => L - (intOf i).toNat)
    case atStart => exact ⟨0, by omega, rfl, 0, rfl⟩
    case round =>
      obtain ⟨k, hk, rfl, hw⟩ := hrel
      by_cases hlt : k < L
      · obtain ⟨r, hrk⟩ : ∃ r, cts[k]? = some r := ⟨_, List.getElem?_eq_getElem (by rw [HL.out]; exact hlt)⟩
        obtain ⟨P, kp, cp, h1, -, -, h2⟩ := hr12.2 k r hrk
        obtain ⟨P', kp', cp', h1', -, -, h2'⟩ := hr2.2 k r hrk
        obtain rfl : kp = kp' := by rw [← h2.rd.len3, ← h2'.rd.len3]
        have hkl : kp ≤ 1500 := by
          have := Hcl.out r (List.mem_of_getElem? hrk)
          rw [h2.rd.len3] at this
          exact this
        obtain ⟨b, o, rfl, -, hcc⟩ := hd1.2 (by omega)
        obtain ⟨b', o', rfl, -, hcc'⟩ := hd2.2 (by omega)
        have q1 : wr.cell? ⟨b, o + k, none⟩ = some (.slice P kp cp) := by obtain ⟨q, rfl⟩ := hw.out; exact hcc k _ h1
        have q2 : wr.cell? ⟨b', o' + k, none⟩ = some (.slice P' kp cp') := by obtain ⟨q, rfl⟩ := hw.out; exact hcc' k _ h1'
        have h3 : Rd wr w2.heap.size P kp 3 (c3s r) := by obtain ⟨q, rfl⟩ := hw.out; exact h2.rd
        have h3' : Rd wr w2.heap.size P' kp 3 (c3s r) := by obtain ⟨q, rfl⟩ := hw.out; exact h2'.rd
        clear hrk h1 h1' hcc hcc'
        have zk : (k : Int) < (L : Int) := by omega
        have zk0 : (0 : Int) ≤ (k : Int) := by omega
        go_wp2_with fail
        go_quiet ((go_at_call 28; exact Calls.quiet_of (samePoints_eq _ w2.heap.size P P' kp cp cp' r (h3.drewN _) (h3'.drewN _) (by omega))))
        go_wp2_with fail
        go_roundw
        case rel => exact ⟨k + 1, by omega, by go_num, by obtain ⟨q, rfl⟩ := hw.out; exact ⟨q + _, by rw [World.drewN_drewN]⟩⟩
        case measure => simp [intOf]; omega
      · have bwr : Below w.heap.size w wr := by obtain ⟨q, rfl⟩ := hw.out; exact below_drewN bw2 q
        have hOr : Bk wr w.heap.size 25 #[.slice A n c, .slice E m d] := by obtain ⟨q, rfl⟩ := hw.out; exact hO2
        have k0 : wr.cell? ⟨w.heap.size, 0, none⟩ = some (.slice A n c) := hOr.cell 0
        have k1 : wr.cell? ⟨w.heap.size, 1, none⟩ = some (.slice E m d) := hOr.cell 1
        clear hr12 hr2 hd1 hd2 hw
        go_wp2_with fail
        refine (box_at _ w.heap.size A E n c m d ps (lx, ly) (ux, uy) zz Hlo.out Hhi.out Hz.out (hA.below bwr (Nat.le_refl _)) bwr.size (by omega)).mono ?_
        rintro e w5 ⟨rfl, hb5⟩
        have hO5 := hOr.below hb5
        have bw5 : Below w.heap.size w w5 := bwr.trans (hb5.mono bwr.size)
        have z5 := hO5.lt
        have k50 : w5.cell? ⟨w.heap.size, 0, none⟩ = some (.slice A n c) := hO5.cell 0
        have k51 : w5.cell? ⟨w.heap.size, 1, none⟩ = some (.slice E m d) := hO5.cell 1
        clear hb5 k0 k1
        go_wp2_with fail
        refine (refBox_at _ w.heap.size A E n c m d ps (lx, ly) (ux, uy) zz Hlo.out Hhi.out Hz.out (((hA.below bw5 (Nat.le_refl _)).alloc (by omega) _).alloc (by simp; omega) _) (by simp; omega) (by omega)).mono ?_
        rintro e w6 ⟨rfl, hb6⟩
        have hO6 := ((hO5.alloc (.cells #[.int .i64 lx, .int .i64 ly, .bool false] 40)).alloc (.cells #[.int .i64 ux, .int .i64 uy, .bool false] 40)).below hb6
        have hL6 : Bk w6 w5.heap.size 40 #[.int .i64 lx, .int .i64 ly, .bool false] := Bk.below ((Bk.new w5 40 _).alloc _) hb6
        have hH6 : Bk w6 (w5.heap.size + 1) 40 #[.int .i64 ux, .int .i64 uy, .bool false] := by
          have h := Bk.new (w5.alloc (.cells #[.int .i64 lx, .int .i64 ly, .bool false] 40)) 40 #[.int .i64 ux, .int .i64 uy, .bool false]
          rw [World.size_alloc] at h
          exact h.below hb6
        have bw6 : Below w.heap.size w w6 := ((bw5.alloc (by omega) _).alloc (by simp; omega) _).trans (hb6.mono (by simp; omega))
        have z6 := hH6.lt
        clear hb6 k50 k51
        go_wp2_with fail
        obtain ⟨W, hW⟩ : ∃ W, (w6.alloc (.cells #[.int .i64 lx, .int .i64 ly, .bool false] 40)).alloc (.cells #[.int .i64 ux, .int .i64 uy, .bool false] 40) = W := ⟨_, rfl⟩
        have hbW : Below w6.heap.size w6 W := by rw [← hW]; exact ((Below.refl _ _).alloc (Nat.le_refl _) _).alloc (by simp) _
        have hP : Bk W w6.heap.size 40 #[.int .i64 lx, .int .i64 ly, .bool false] := by rw [← hW]; exact (Bk.new w6 40 _).alloc _
        have hQ : Bk W (w6.heap.size + 1) 40 #[.int .i64 ux, .int .i64 uy, .bool false] := by
          rw [← hW]
          have h := Bk.new (w6.alloc (.cells #[.int .i64 lx, .int .i64 ly, .bool false] 40)) 40 #[.int .i64 ux, .int .i64 uy, .bool false]
          rwa [World.size_alloc] at h
        have hOW := hO6.below hbW
        have hLW := hL6.below hbW
        have hHW := hH6.below hbW
        have bwW : Below w.heap.size w W := bw6.trans (hbW.mono bw6.size)
        rw [hW]
        clear hW
        have g0 : W.cell? ⟨w.heap.size, 0, none⟩ = some (.slice A n c) := hOW.cell 0
        have g1 : W.cell? ⟨w.heap.size, 1, none⟩ = some (.slice E m d) := hOW.cell 1
        have g2 : W.cell? ⟨w5.heap.size, 0, none⟩ = some (.int .i64 lx) := hLW.cell 0
        have g3 : W.cell? ⟨w5.heap.size, 1, none⟩ = some (.int .i64 ly) := hLW.cell 1
        have g4 : W.cell? ⟨w5.heap.size, 2, none⟩ = some (.bool false) := hLW.cell 2
        have g5 : W.cell? ⟨w5.heap.size + 1, 0, none⟩ = some (.int .i64 ux) := hHW.cell 0
        have g6 : W.cell? ⟨w5.heap.size + 1, 1, none⟩ = some (.int .i64 uy) := hHW.cell 1
        have g7 : W.cell? ⟨w5.heap.size + 1, 2, none⟩ = some (.bool false) := hHW.cell 2
        have g8 : W.cell? ⟨w6.heap.size, 0, none⟩ = some (.int .i64 lx) := hP.cell 0
        have g9 : W.cell? ⟨w6.heap.size, 1, none⟩ = some (.int .i64 ly) := hP.cell 1
        have g10 : W.cell? ⟨w6.heap.size, 2, none⟩ = some (.bool false) := hP.cell 2
        have g11 : W.cell? ⟨w6.heap.size + 1, 0, none⟩ = some (.int .i64 ux) := hQ.cell 0
        have g12 : W.cell? ⟨w6.heap.size + 1, 1, none⟩ = some (.int .i64 uy) := hQ.cell 1
        have g13 : W.cell? ⟨w6.heap.size + 1, 2, none⟩ = some (.bool false) := hQ.cell 2
        have hAW := hA.below bwW (Nat.le_refl _)
        have hEW := hE.below bwW (Nat.le_refl _)
        have hsW := bwW.size
        have eq40 := run_eql40
        have eg4 := eg40
        clear hbW hOW hLW hHW hP hQ hO6 hL6 hH6
        go_region_held3 (fun w' => w'.cell? ⟨w.heap.size, 0, none⟩ = some (.slice A n c) ∧ w'.cell? ⟨w.heap.size, 1, none⟩ = some (.slice E m d) ∧ w'.cell? ⟨w5.heap.size, 0, none⟩ = some (.int .i64 lx) ∧ w'.cell? ⟨w5.heap.size, 1, none⟩ = some (.int .i64 ly) ∧ w'.cell? ⟨w5.heap.size, 2, none⟩ = some (.bool false) ∧ w'.cell? ⟨w5.heap.size + 1, 0, none⟩ = some (.int .i64 ux) ∧ w'.cell? ⟨w5.heap.size + 1, 1, none⟩ = some (.int .i64 uy) ∧ w'.cell? ⟨w5.heap.size + 1, 2, none⟩ = some (.bool false) ∧ w'.cell? ⟨w6.heap.size, 0, none⟩ = some (.int .i64 lx) ∧ w'.cell? ⟨w6.heap.size, 1, none⟩ = some (.int .i64 ly) ∧ w'.cell? ⟨w6.heap.size, 2, none⟩ = some (.bool false) ∧ w'.cell? ⟨w6.heap.size + 1, 0, none⟩ = some (.int .i64 ux) ∧ w'.cell? ⟨w6.heap.size + 1, 1, none⟩ = some (.int .i64 uy) ∧ w'.cell? ⟨w6.heap.size + 1, 2, none⟩ = some (.bool false))
          (first
            | go_keep
            | (go_split_ands
               exact ⟨cellB hbL (by assumption), cellB hbL (by assumption), cellB hbL (by assumption), cellB hbL (by assumption), cellB hbL (by assumption), cellB hbL (by assumption), cellB hbL (by assumption), cellB hbL (by assumption), cellB hbL (by assumption), cellB hbL (by assumption), cellB hbL (by assumption), cellB hbL (by assumption), cellB hbL (by assumption), cellB hbL (by assumption)⟩))
          (first
            | (go_at_call 13; refine (drawn_ok _).mono ?_; rintro e w7 ⟨rfl, hbL⟩; have b7 : Below W.heap.size W w7 := (Below.refl _ W).drew.trans hbL)
            | (go_at_call 23; refine (right_at _ w.heap.size A E n c m d ps es RB HRB.out (hAW.below b7 hsW) (hEW.below b7 hsW) (Nat.le_trans hsW b7.size) (by omega)).mono ?_; rintro e w8 ⟨rfl, hbL⟩; have b8 : Below W.heap.size W w8 := b7.trans (hbL.mono b7.size))
            | (go_at_call 30; refine (refRight_at _ w.heap.size A E n c m d ps es RB HRB.out (hAW.below b8 hsW) (hEW.below b8 hsW) (Nat.le_trans hsW b8.size) (by omega)).mono ?_; rintro e w9 ⟨rfl, hbL⟩; have b9 : Below W.heap.size W w9 := b8.trans (hbL.mono b8.size))
            | (go_at_call 22; refine (area_at _ w.heap.size A E n c m d ps es AR HAR.out (hAW.below b9 hsW) (hEW.below b9 hsW) (Nat.le_trans hsW b9.size) hc hc' (by omega)).mono ?_; rintro e w10 ⟨rfl, hbL⟩; have b10 : Below W.heap.size W w10 := b9.trans (hbL.mono b9.size))
            | (go_at_call 31; refine (refArea_at _ w.heap.size A E n c m d ps es AR HAR.out (hAW.below b10 hsW) (hEW.below b10 hsW) (Nat.le_trans hsW b10.size) hc hc' (by omega) (by omega)).mono ?_; rintro e w11 ⟨rfl, hbL⟩; have b11 : Below W.heap.size W w11 := b10.trans (hbL.mono b10.size)))
        all_goals
          go_wp2
          go_ret
          exact ⟨by simp, bwW.trans (b11.mono hsW)⟩
end Go.Proofs.Ytfpdbdbgemolgaa
