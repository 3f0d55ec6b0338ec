/- The walk of fleuronlaw03.OutlineShifts: it returns true, and what was there is as it was. -/
import Derived.Test.YtfpdbdbgemolgaaTurns
import Derived.Test.YtfpdbdbgemolgaaPureRow
namespace Go.Proofs.Ytfpdbdbgemolgaa
open Go.RowKit

set_option maxRecDepth 100000 in
set_option maxHeartbeats 4000000 in
theorem shifts_no (w : World) (A E : Option Addr) (n c m d : Nat) (ps : List P3) (es : List Int) (x y : Int) (hA : Rd w w.heap.size A n 3 (c3s ps)) (hE : Rd w w.heap.size E m 1 (cIs es)) (hn : n ≤ 9223372036854775807)
    (h : ¬ (rightB ps es = true ∧ x ≤ 1000000 ∧ -1000000 ≤ x ∧ y ≤ 1000000 ∧ -1000000 ≤ y)) :
    Calls Try.prog 7 #[.agg #[.slice A n c, .slice E m d], .int .i64 x, .int .i64 y] w fun e w' => e = .returned (.bool true) ∧ Below w.heap.size w w' := by
  obtain ⟨R, hR⟩ : ∃ R, rightB ps es = R := ⟨_, rfl⟩
  have hcase : R = false ∨ (R = true ∧ decide (1000000 < x) = true) ∨ (R = true ∧ decide (1000000 < x) = false ∧ decide (x < -1000000) = true) ∨ (R = true ∧ decide (1000000 < x) = false ∧ decide (x < -1000000) = false ∧ decide (1000000 < y) = true) ∨ (R = true ∧ decide (1000000 < x) = false ∧ decide (x < -1000000) = false ∧ decide (1000000 < y) = false ∧ decide (y < -1000000) = true) := by
    rw [hR] at h
    cases R
    · exact .inl rfl
    · refine .inr ?_
      simp only [true_and, decide_eq_true_eq, decide_eq_false_iff_not] at h ⊢
      omega
  have HR := Lib.hid hR
  clear hR h
  go_enter Try.func7, Try.ntmps7
  rcases hcase with rfl | ⟨rfl, g1⟩ | ⟨rfl, g1, g2⟩ | ⟨rfl, g1, g2, g3⟩ | ⟨rfl, g1, g2, g3, g4⟩
  all_goals
    go_wp2_with fail
    refine (right_at _ w.heap.size A E n c m d ps es _ HR.out (hA.alloc (Nat.le_refl _) _) (hE.alloc (Nat.le_refl _) _) (by simp) hn).mono ?_
    rintro e w2 ⟨rfl, hb2⟩
    have bw2 : Below w.heap.size w w2 := ((Below.refl _ w).alloc (Nat.le_refl _) _).trans (hb2.mono (by simp))
    go_wp2_with fail
    refine (drawn_ok _).mono ?_
    rintro e w3 ⟨rfl, hb3⟩
    have bw3 : Below w.heap.size w w3 := bw2.trans (hb3.mono bw2.size)
    go_wp2
    go_ret
    exact ⟨rfl, bw3⟩

set_option maxRecDepth 100000 in
set_option maxHeartbeats 8000000 in
theorem shifts_yes (w : World) (A E : Option Addr) (n c m d : Nat) (ps : List P3) (es : List Int) (x y : Int) (hA : Rd w w.heap.size A n 3 (c3s ps)) (hE : Rd w w.heap.size E m 1 (cIs es))
    (hR : rightB ps es = true) (hx1 : x ≤ 1000000) (hx2 : -1000000 ≤ x) (hy1 : y ≤ 1000000) (hy2 : -1000000 ≤ y) :
    Calls Try.prog 7 #[.agg #[.slice A n c, .slice E m d], .int .i64 x, .int .i64 y] w fun e w' => e = .returned (.bool true) ∧ Below w.heap.size w w' := by
  obtain ⟨hr1, hr2, hr3, hr4⟩ := rightB_true ps es hR
  have hlen := hA.len3
  have helen := hE.lenI
  have hbd : ∀ p ∈ ps, Bd p := fun p hp => hr3 p hp
  have hL0 : linesL (spz (ps.map (gpt 0 0)) (ps.map gon)) (pcsF n 0 0 es) = linesL ps (pcsF n 0 0 es) := by
    rw [spz_grid, mv_tr 0 0 (by unfold bd; omega) (by unfold bd; omega) ps hbd, tr_zero]
  have hL1 : linesL (spz (ps.map (gpt x y)) (ps.map gon)) (pcsF n 0 0 es) = (linesL ps (pcsF n 0 0 es)).map (fun r => r.map (tr2 x y)) := by
    rw [spz_grid, mv_tr x y ⟨hx2, hx1⟩ ⟨hy2, hy1⟩ ps hbd, linesL_tr x y ⟨hx2, hx1⟩ ⟨hy2, hy1⟩ ps hbd]
  have hLb : ∀ r ∈ linesL ps (pcsF n 0 0 es), ∀ q ∈ r, ((-16384 : Int) ≤ q.1 ∧ q.1 ≤ 16384) ∧ ((-16384 : Int) ≤ q.2 ∧ q.2 ≤ 16384) := fun r hr => by
    simp only [linesL, List.mem_map] at hr
    obtain ⟨p, _, rfl⟩ := hr
    exact lines_in _ (-16384, -16384) (16384, 16384) (by decide) (by decide) (fun q hq => hr3 q (seg_mem _ _ _ _ hq))
  have hLn : (linesL ps (pcsF n 0 0 es)).length = m := by
    unfold linesL
    rw [List.length_map, endsR_pcs n es (-1) 0 0 (by omega) (by rw [hlen] at hr4; exact hr4), helen]
  have hLl := linesL_len ps (pcsF n 0 0 es) n (by omega)
  rw [hlen] at hr1
  rw [helen] at hr2
  generalize linesL ps (pcsF n 0 0 es) = rows at *
  have HL0 := Lib.hid hL0
  have HL1 := Lib.hid hL1
  have HLb := Lib.hid hLb
  have HLn := Lib.hid hLn
  have HLl := Lib.hid hLl
  have HR := Lib.hid hR
  have Hlen := Lib.hid hlen
  have g1 : decide (1000000 < x) = false := by simp; omega
  have g2 : decide (x < -1000000) = false := by simp; omega
  have g3 : decide (1000000 < y) = false := by simp; omega
  have g4 : decide (y < -1000000) = false := by simp; omega
  clear hL0 hL1 hLb hLn hLl hR hlen helen hr3 hr4 hbd
  go_enter Try.func7, Try.ntmps7
  go_wp2_with fail
  refine (right_at _ w.heap.size A E n c m d ps es _ HR.out (hA.alloc (Nat.le_refl _) _) (hE.alloc (Nat.le_refl _) _) (by simp) (by omega)).mono ?_
  rintro e w1 ⟨rfl, hb1⟩
  have hO1 : Bk w1 w.heap.size 25 #[.slice A n c, .slice E m d] := (hb1.block _ (by simp)).trans (Bk.new _ _ _)
  have bw1 : Below w.heap.size w w1 := ((Below.refl _ w).alloc (Nat.le_refl _) _).trans (hb1.mono (by simp))
  have k0 : w1.cell? ⟨w.heap.size, 0, none⟩ = some (.slice A n c) := hO1.cell 0
  have k1 : w1.cell? ⟨w.heap.size, 1, none⟩ = some (.slice E m d) := hO1.cell 1
  clear hb1
  go_wp2_with fail
  refine (grid_ok _ w.heap.size A E n c m d ps 0 0 (hA.below bw1 (Nat.le_refl _)) bw1.size (by omega)).mono ?_
  rintro e w2 ⟨A2, n2, c2, O2, co2, rfl, -, -, hA2, hO2, hb2⟩
  obtain rfl : n = n2 := by rw [← hA2.len2, List.length_map, Hlen.out]
  have hB2 : Bk w2 w.heap.size 25 #[.slice A n c, .slice E m d] := (hb2.block _ hO1.lt).trans hO1
  have bw2 : Below w.heap.size w w2 := bw1.trans (hb2.mono bw1.size)
  have k20 : w2.cell? ⟨w.heap.size, 0, none⟩ = some (.slice A n c) := hB2.cell 0
  have k21 : w2.cell? ⟨w.heap.size, 1, none⟩ = some (.slice E m d) := hB2.cell 1
  clear hb2 k0 k1
  go_wp2_with fail
  refine (grid_ok _ w.heap.size A E n c m d ps x y (hA.below bw2 (Nat.le_refl _)) bw2.size (by omega)).mono ?_
  rintro e w3 ⟨A3, n3, c3, O3, co3, rfl, -, -, hA3, hO3, hb3⟩
  obtain rfl : n = n3 := by rw [← hA3.len2, List.length_map, Hlen.out]
  have hB3 : Bk w3 w.heap.size 25 #[.slice A n c, .slice E m d] := (hb3.block _ hB2.lt).trans hB2
  have bw3 : Below w.heap.size w w3 := bw2.trans (hb3.mono bw2.size)
  have k31 : w3.cell? ⟨w.heap.size, 1, none⟩ = some (.slice E m d) := hB3.cell 1
  have hA23 : Rd w3 w3.heap.size A2 n 2 (c2s (ps.map (gpt 0 0))) := (hA2.below hb3 (Nat.le_refl _)).mono hb3.size
  have hO23 : Rd w3 w3.heap.size O2 n 1 (cBs (ps.map gon)) := (hO2.below hb3 (Nat.le_refl _)).mono hb3.size
  clear hb3 k20 k21 hA2 hO2
  go_wp2_with fail
  refine (lines_ok w3 w3.heap.size A2 O2 E n c2 co2 m d _ _ es hA23 hO23 ((hE.below bw3 (Nat.le_refl _)).mono bw3.size) (Nat.le_refl _) (by omega) (by omega)).mono ?_
  rintro e w4 ⟨v4, hs4, rfl, hown4, hr4, hb4⟩
  have hB4 : Bk w4 w.heap.size 25 #[.slice A n c, .slice E m d] := (hb4.block _ hB3.lt).trans hB3
  have bw4 : Below w.heap.size w w4 := bw3.trans (hb4.mono bw3.size)
  have k41 : w4.cell? ⟨w.heap.size, 1, none⟩ = some (.slice E m d) := hB4.cell 1
  have hA34 : Rd w4 w4.heap.size A3 n 2 (c2s (ps.map (gpt x y))) := (hA3.below hb4 (Nat.le_refl _)).mono hb4.size
  have hO34 : Rd w4 w4.heap.size O2 n 1 (cBs (ps.map gon)) := (hO23.below hb4 (Nat.le_refl _)).mono hb4.size
  rw [HL0.out] at hr4
  clear hb4 k31 hA23 hO23 hA3 hO3
  obtain ⟨A4, c4, rfl, -⟩ := Rd.of_own hown4
  go_wp2_with fail
  refine (lines_ok w4 w4.heap.size A3 O2 E n c3 co2 m d _ _ es hA34 hO34 ((hE.below bw4 (Nat.le_refl _)).mono bw4.size) (Nat.le_refl _) (by omega) (by omega)).mono ?_
  rintro e w5 ⟨v5, hs5, rfl, hown5, hr5, hb5⟩
  have hB5 : Bk w5 w.heap.size 25 #[.slice A n c, .slice E m d] := (hb5.block _ hB4.lt).trans hB4
  have bw5 : Below w.heap.size w w5 := bw4.trans (hb5.mono bw4.size)
  have k51 : w5.cell? ⟨w.heap.size, 1, none⟩ = some (.slice E m d) := hB5.cell 1
  rw [HL1.out] at hr5
  have hown45 := own_below hown4 hb5
  have hr45 : RowsIn2 w5 hs4 rows := rowsIn_kept hr4 (fun A k r h => h.below hb5)
  have hl4 : hs4.length = m := by rw [hr45.1, HLn.out]
  have hl5 : hs5.length = m := by rw [hr5.1, List.length_map, HLn.out]
  clear hb5 k41 hA34 hO34 hown4 hr4
  obtain ⟨A5, c5, rfl, hd5⟩ := Rd.of_own hown5
  obtain ⟨A4', c4', e4, hd4⟩ := Rd.of_own hown45
  simp only [Value.slice.injEq, true_and] at e4
  obtain ⟨rfl, rfl⟩ := e4
  rw [hl5] at hd5 ⊢
  rw [hl4] at hd4 ⊢
  have hne : ((m : Int) != (m : Int)) = false := by simp
  clear hl4 hl5 hown5 hown45
  go_wp2_with fail
  go_loopw [13] (fun i wr => ∃ k : Nat, k ≤ m ∧ i = .int .i64 k ∧ Hid (∃ q, wr = w5.drewN q)) (fun i _ => m - (intOf i).toNat)
  case atStart => exact ⟨0, by omega, rfl, 0, rfl⟩
  case round =>
    obtain ⟨k, hk, rfl, hw⟩ := hrel
    by_cases hlt : k < m
    · obtain ⟨r, hrk⟩ : ∃ r, rows[k]? = some r := ⟨_, List.getElem?_eq_getElem (by rw [HLn.out]; exact hlt)⟩
      obtain ⟨P, kp, cp, h1, h2⟩ := hr45.2 k r hrk
      obtain ⟨P', kp', cp', h1', h2'⟩ := hr5.2 k (r.map (tr2 x y)) (by rw [List.getElem?_map, hrk]; rfl)
      obtain rfl : kp = kp' := by rw [← h2.rd.len2, ← h2'.rd.len2, List.length_map]
      have hkl : kp ≤ 40000 := by
        have := HLl.out r (List.mem_of_getElem? hrk)
        rw [h2.rd.len2] at this
        omega
      have hin : Hid (∀ q ∈ r, ((-16384 : Int) ≤ q.1 ∧ q.1 ≤ 16384) ∧ ((-16384 : Int) ≤ q.2 ∧ q.2 ≤ 16384)) := HLb.out r (List.mem_of_getElem? hrk)
      obtain ⟨b, o, rfl, -, hc⟩ := hd4.2 (by omega)
      obtain ⟨b', o', rfl, -, hc'⟩ := hd5.2 (by omega)
      have Hc1 : Hid (w5.cell? ⟨b, o + k, none⟩ = some (.slice P kp cp)) := hc k _ h1
      have Hc2 : Hid (w5.cell? ⟨b', o' + k, none⟩ = some (.slice P' kp cp')) := hc' k _ h1'
      have q1 : wr.cell? ⟨b, o + k, none⟩ = some (.slice P kp cp) := by obtain ⟨q, rfl⟩ := hw.out; exact hc k _ h1
      have q2 : wr.cell? ⟨b', o' + k, none⟩ = some (.slice P' kp cp') := by obtain ⟨q, rfl⟩ := hw.out; exact hc' k _ h1'
      clear hrk h1 h1' hc hc'
      have zk : (k : Int) < (m : Int) := by omega
      have zk0 : (0 : Int) ≤ (k : Int) := by omega
      have hne2 : ((kp : Int) != (kp : Int)) = false := by simp
      go_wp2_with fail
      go_quiet (fail)
      go_wp2_with fail
      clear q1 q2 hne2
      go_loopw [14] (fun i ws => ∃ j : Nat, j ≤ kp ∧ i = .int .i64 j ∧ Hid (∃ q, ws = w5.drewN q)) (fun i _ => kp - (intOf i).toNat)
      case atStart => exact ⟨0, by omega, rfl, by obtain ⟨q, rfl⟩ := hw.out; exact ⟨_, World.drewN_drewN _ _ _⟩⟩
      case round =>
        obtain ⟨j, hj, rfl, hwj⟩ := hrel
        have q1 : wr.cell? ⟨b, o + k, none⟩ = some (.slice P kp cp) := by obtain ⟨q, rfl⟩ := hwj.out; exact Hc1.out
        have q2 : wr.cell? ⟨b', o' + k, none⟩ = some (.slice P' kp cp') := by obtain ⟨q, rfl⟩ := hwj.out; exact Hc2.out
        by_cases hltj : j < kp
        · have hr1 : Rd wr w5.heap.size P kp 2 (c2s r) := by obtain ⟨q, rfl⟩ := hwj.out; exact h2.rd
          have hr2 : Rd wr w5.heap.size P' kp 2 (c2s (r.map (tr2 x y))) := by obtain ⟨q, rfl⟩ := hwj.out; exact h2'.rd
          obtain ⟨b1, o1, px, py, rfl, -, hp, u1, u2⟩ := hr1.at2 hltj
          obtain ⟨b2, o2, px', py', rfl, -, hp', u3, u4⟩ := hr2.at2 hltj
          have he : px' = px + x ∧ py' = py + y := by
            have := hp'.out
            rw [List.getElem?_map, hp.out] at this
            simp only [Option.map_some, Option.some.injEq, tr2, Prod.mk.injEq] at this
            omega
          obtain ⟨rfl, rfl⟩ := he
          have hbx := hin.out _ (List.mem_of_getElem? hp.out)
          dsimp only at hbx
          obtain ⟨⟨e1, e2⟩, ⟨e3, e4⟩⟩ := hbx
          have zj : (j : Int) < (kp : Int) := by omega
          have zj0 : (0 : Int) ≤ (j : Int) := by omega
          have wx : IntKind.i64.wrap (px + x) = px + x := IntWalk.i64_in _ (by omega)
          have wy : IntKind.i64.wrap (py + y) = py + y := IntWalk.i64_in _ (by omega)
          have neq47 := run_neq47
          have eg := eg47
          clear hp hp' hr1 hr2
          go_wp2_with fail
          go_quiet (fail)
          clear wx wy
          go_wp2_with fail
          go_roundw
          case rel => exact ⟨j + 1, by omega, by go_num, by obtain ⟨q, rfl⟩ := hwj.out; exact ⟨_, World.drewN_drewN _ _ _⟩⟩
          case measure => simp [intOf]; omega
        · go_wp2_with fail
          go_roundw
          case rel => exact ⟨k + 1, by omega, by go_num, hwj⟩
          case measure => simp [intOf]; omega
    · go_wp2_with fail
      refine (drawn_ok _).mono ?_
      rintro e w6 ⟨rfl, hb6⟩
      have bw6 : Below w.heap.size w w6 := by
        obtain ⟨q, rfl⟩ := hw.out
        exact (below_drewN bw5 q).trans (hb6.mono bw5.size)
      go_wp2
      go_ret
      exact ⟨rfl, bw6⟩

theorem shifts_walk (w : World) (A E : Option Addr) (n c m d : Nat) (ps : List P3) (es : List Int) (x y : Int) (hA : Rd w w.heap.size A n 3 (c3s ps)) (hE : Rd w w.heap.size E m 1 (cIs es)) (hn : n ≤ 9223372036854775807) :
    Calls Try.prog 7 #[.agg #[.slice A n c, .slice E m d], .int .i64 x, .int .i64 y] w fun e w' => e = .returned (.bool true) ∧ Below w.heap.size w w' := by
  by_cases h : rightB ps es = true ∧ x ≤ 1000000 ∧ -1000000 ≤ x ∧ y ≤ 1000000 ∧ -1000000 ≤ y
  · exact shifts_yes w A E n c m d ps es x y hA hE h.1 h.2.1 h.2.2.1 h.2.2.2.1 h.2.2.2.2
  · exact shifts_no w A E n c m d ps es x y hA hE hn h
end Go.Proofs.Ytfpdbdbgemolgaa
