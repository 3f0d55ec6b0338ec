/- The walk of fleuronlaw03.OutlineWithin: it returns true, and what was there is as it was. -/
import Derived.Test.YtfpdbdbgemolgaaTold2
import Derived.Test.YtfpdbdbgemolgaaPureCount
import Derived.Test.YtfpdbdbgemolgaaBoxes
namespace Go.Proofs.Ytfpdbdbgemolgaa
open Go.RowKit

theorem cntTo_le (r : List P3) (k : Nat) : cntTo r k ≤ 8 * k := by
  induction k with
  | zero => simp [cntTo]
  | succ k ih =>
    rw [cntTo]
    split
    · unfold wt
      split
      · omega
      · split <;> omega
    · omega

set_option maxRecDepth 100000 in
set_option maxHeartbeats 4000000 in
theorem within_no (w : World) (A E : Option Addr) (n c m d : Nat) (ps : List P3) (es : List Int) (hA : Rd w w.heap.size A n 3 (c3s ps)) (hE : Rd w w.heap.size E m 1 (cIs es)) (hn : n ≤ 9223372036854775807) (h : rightB ps es = false) :
    Calls Try.prog 9 #[.agg #[.slice A n c, .slice E m d]] w fun e w' => e = .returned (.bool true) ∧ Below w.heap.size w w' := by
  have HR := Lib.hid h
  clear h
  go_enter Try.func9, Try.ntmps9
  go_wp2_with fail
  refine (right_at _ w.heap.size A E n c m d ps es _ HR.out (hA.alloc (Nat.le_refl _) _) (hE.alloc (Nat.le_refl _) _) (by simp) hn).mono ?_
  rintro e w2 ⟨rfl, hb2⟩
  have bw2 : Below w.heap.size w w2 := ((Below.refl _ w).alloc (Nat.le_refl _) _).trans (hb2.mono (by simp))
  go_wp2_with fail
  refine (drawn_ok _).mono ?_
  rintro e w3 ⟨rfl, hb3⟩
  have bw3 : Below w.heap.size w w3 := bw2.trans (hb3.mono bw2.size)
  go_wp2
  go_ret
  exact ⟨rfl, bw3⟩

set_option maxRecDepth 100000 in
set_option maxHeartbeats 8000000 in
theorem within_yes (w : World) (A E : Option Addr) (n c m d : Nat) (ps : List P3) (es : List Int) (hA : Rd w w.heap.size A n 3 (c3s ps)) (hE : Rd w w.heap.size E m 1 (cIs es)) (hR : rightB ps es = true) :
    Calls Try.prog 9 #[.agg #[.slice A n c, .slice E m d]] w fun e w' => e = .returned (.bool true) ∧ Below w.heap.size w w' := by
  obtain ⟨hr1, hr2, hr3, hr4⟩ := rightB_true ps es hR
  have hlen := hA.len3
  have helen := hE.lenI
  have hbd : ∀ p ∈ ps, Bd p := fun p hp => hr3 p hp
  have hL0 : linesL (spz (ps.map (gpt 0 0)) (ps.map gon)) (pcsF n 0 0 es) = linesL ps (pcsF n 0 0 es) := by
    rw [spz_grid, mv_tr 0 0 (by unfold bd; omega) (by unfold bd; omega) ps hbd, tr_zero]
  have hpn : (pcsF n 0 0 es).length = m := by rw [endsR_pcs n es (-1) 0 0 (by omega) (by rw [hlen] at hr4; exact hr4), helen]
  have hrow : ∀ (k : Nat) (r : List P3), (contL ps (pcsF n 0 0 es))[k]? = some r → (linesL ps (pcsF n 0 0 es))[k]? = some (rowL (ringL r)) ∧ (∀ p ∈ r, (-16384 ≤ p.1 ∧ p.1 ≤ 16384) ∧ (-16384 ≤ p.2.1 ∧ p.2.1 ≤ 16384)) ∧ 0 < r.length ∧ r.length ≤ 200 := fun k r h => by
    simp only [contL, linesL, List.getElem?_map, Option.map_eq_some_iff] at h ⊢
    obtain ⟨p, hp, rfl⟩ := h
    obtain ⟨-, h1, h2⟩ := pcsF_mem n es 0 0 p (List.mem_of_getElem? hp)
    refine ⟨⟨p, hp, rfl⟩, fun q hq => hr3 q (seg_mem _ _ _ _ hq), ?_, ?_⟩ <;> rw [seg_length ps p.2.1 p.2.2 (by omega)] <;> omega
  have hcn : (contL ps (pcsF n 0 0 es)).length = m := by rw [← hpn]; simp [contL]
  have hln : (linesL ps (pcsF n 0 0 es)).length = m := by rw [← hpn]; simp [linesL]
  rw [hlen] at hr1
  rw [helen] at hr2
  have HL0 := Lib.hid hL0
  generalize linesL ps (pcsF n 0 0 es) = rows at *
  generalize hct : contL ps (pcsF n 0 0 es) = cts at *
  have Hct := Lib.hid hct
  have Hrow := Lib.hid hrow
  have Hcn := Lib.hid hcn
  have Hln := Lib.hid hln
  have HR := Lib.hid hR
  have Hlen := Lib.hid hlen
  clear hL0 hR hlen helen hr3 hr4 hbd hct hrow hcn hln hpn
  go_enter Try.func9, Try.ntmps9
  go_wp2_with fail
  refine (right_at _ w.heap.size A E n c m d ps es _ HR.out (hA.alloc (Nat.le_refl _) _) (hE.alloc (Nat.le_refl _) _) (by simp) (by omega)).mono ?_
  rintro e w1 ⟨rfl, hb1⟩
  have hO1 : Bk w1 w.heap.size 25 #[.slice A n c, .slice E m d] := (hb1.block _ (by simp)).trans (Bk.new _ _ _)
  have bw1 : Below w.heap.size w w1 := ((Below.refl _ w).alloc (Nat.le_refl _) _).trans (hb1.mono (by simp))
  have k0 : w1.cell? ⟨w.heap.size, 0, none⟩ = some (.slice A n c) := hO1.cell 0
  have k1 : w1.cell? ⟨w.heap.size, 1, none⟩ = some (.slice E m d) := hO1.cell 1
  clear hb1
  go_wp2_with fail
  refine (grid_ok _ w.heap.size A E n c m d ps 0 0 (hA.below bw1 (Nat.le_refl _)) bw1.size (by omega)).mono ?_
  rintro e w2 ⟨A2, n2, c2, O2, co2, rfl, -, -, hA2, hO2, hb2⟩
  obtain rfl : n = n2 := by rw [← hA2.len2, List.length_map, Hlen.out]
  have hB2 : Bk w2 w.heap.size 25 #[.slice A n c, .slice E m d] := (hb2.block _ hO1.lt).trans hO1
  have bw2 : Below w.heap.size w w2 := bw1.trans (hb2.mono bw1.size)
  have k20 : w2.cell? ⟨w.heap.size, 0, none⟩ = some (.slice A n c) := hB2.cell 0
  have k21 : w2.cell? ⟨w.heap.size, 1, none⟩ = some (.slice E m d) := hB2.cell 1
  clear hb2 k0 k1
  go_wp2_with fail
  refine (lines_ok w2 w2.heap.size A2 O2 E n c2 co2 m d _ _ es hA2 hO2 ((hE.below bw2 (Nat.le_refl _)).mono bw2.size) (Nat.le_refl _) (by omega) (by omega)).mono ?_
  rintro e w4 ⟨v4, hs4, rfl, hown4, hr4, hb4⟩
  have hB4 : Bk w4 w.heap.size 25 #[.slice A n c, .slice E m d] := (hb4.block _ hB2.lt).trans hB2
  have bw4 : Below w.heap.size w w4 := bw2.trans (hb4.mono bw2.size)
  have k40 : w4.cell? ⟨w.heap.size, 0, none⟩ = some (.slice A n c) := hB4.cell 0
  have k41 : w4.cell? ⟨w.heap.size, 1, none⟩ = some (.slice E m d) := hB4.cell 1
  rw [HL0.out] at hr4
  clear hb4 k20 k21 hA2 hO2
  obtain ⟨A4, c4, rfl, -⟩ := Rd.of_own hown4
  go_wp2_with fail
  refine (told_ok w4 w.heap.size A E n c m d ps es (hA.below bw4 (Nat.le_refl _)) (hE.below bw4 (Nat.le_refl _)) bw4.size (by omega) (by omega)).mono ?_
  rintro e w5 ⟨v5, hs5, rfl, hown5, hr5, hb5⟩
  have hB5 : Bk w5 w.heap.size 25 #[.slice A n c, .slice E m d] := (hb5.block _ hB4.lt).trans hB4
  have bw5 : Below w.heap.size w w5 := bw4.trans (hb5.mono bw4.size)
  have k51 : w5.cell? ⟨w.heap.size, 1, none⟩ = some (.slice E m d) := hB5.cell 1
  rw [Hct.out] at hr5
  have hown45 := own_below hown4 hb5
  have hr45 : RowsIn2 w5 hs4 rows := rowsIn_kept hr4 (fun A k r h => h.below hb5)
  have hl4 : hs4.length = m := by rw [hr45.1, Hln.out]
  have hl5 : hs5.length = m := by rw [hr5.1, Hcn.out]
  clear hb5 k40 k41 hown4 hr4
  obtain ⟨A5, c5, rfl, hd5⟩ := Rd.of_own hown5
  obtain ⟨A4', c4', e4, hd4⟩ := Rd.of_own hown45
  simp only [Value.slice.injEq, true_and] at e4
  obtain ⟨rfl, rfl⟩ := e4
  rw [hl5] at hd5 ⊢
  rw [hl4] at hd4 ⊢
  have hne : ((m : Int) != (m : Int)) = false := by simp
  have hz5 := hB5.lt
  clear hl4 hl5 hown5 hown45
  go_wp2_with fail
  go_loopw [8] (fun i wr => ∃ k : Nat, k ≤ m ∧ i = .int .i64 k ∧ Below w5.heap.size w5 wr) (fun i _ => m - (intOf i).toNat)
  case atStart => exact ⟨0, by omega, rfl, Below.refl _ _⟩
  case round =>
    obtain ⟨k, hk, rfl, hbr⟩ := hrel
    by_cases hlt : k < m
    · obtain ⟨r, hrk⟩ : ∃ r, cts[k]? = some r := ⟨_, List.getElem?_eq_getElem (by rw [Hcn.out]; exact hlt)⟩
      obtain ⟨hrl, hrb, hr0, hr200⟩ := Hrow.out k r hrk
      obtain ⟨P, kp, cp, h1, -, -, h2⟩ := hr5.2 k r hrk
      obtain ⟨P', kp', cp', h1', h2'⟩ := hr45.2 k _ hrl
      have hkp := h2.rd.len3
      have hkp' := h2'.rd.len2
      have hcnt := rowL_ringL_count r hr0
      have hne0 : r ≠ [] := by intro e; rw [e] at hr0; simp at hr0
      obtain ⟨lx, ly, hlo⟩ : ∃ lx ly, lowP r = (lx, ly) := ⟨_, _, rfl⟩
      obtain ⟨ux, uy, hhi⟩ : ∃ ux uy, highP r = (ux, uy) := ⟨_, _, rfl⟩
      have hcor := corners r hne0
      rw [hlo, hhi] at hcor
      obtain ⟨hcor1, ⟨p1, m1, e1⟩, ⟨p2, m2, e2⟩, ⟨p3, m3, e3⟩, ⟨p4, m4, e4⟩⟩ := hcor
      have hin : Hid (∀ q ∈ rowL (ringL r), (lx ≤ q.1 ∧ q.1 ≤ ux) ∧ (ly ≤ q.2 ∧ q.2 ≤ uy)) := lines_in r (lx, ly) (ux, uy) (by have := hrb p1 m1; have := hrb p3 m3; dsimp only at *; omega) (by have := hrb p2 m2; have := hrb p4 m4; dsimp only at *; omega) (fun p hp => by have := hcor1 p hp; dsimp only at *; omega)
      have Hlo := Lib.hid hlo
      have Hhi := Lib.hid hhi
      have Hz : Hid (decide (0 < r.length) = true) := by show _ = _; simp; omega
      rw [hkp] at hr0 hr200
      rw [hkp', hkp] at hcnt
      have Hcnt := Lib.hid hcnt
      have Hkp := Lib.hid hkp
      have hrl2 := rowL_len (ringL r)
      rw [ringL_len] at hrl2
      have hrt := ringTo_len r r.length
      rw [hkp] at hrt hrl2
      rw [hkp'] at hrl2
      obtain ⟨b, o, rfl, hbb, hc⟩ := hd5.2 (by omega)
      obtain ⟨b', o', rfl, hbb', hc'⟩ := hd4.2 (by omega)
      have q1 : wr.cell? ⟨b, o + k, none⟩ = some (.slice P kp cp) := cellB hbr (hc k _ h1)
      have q2 : wr.cell? ⟨b', o' + k, none⟩ = some (.slice P' kp' cp') := cellB hbr (hc' k _ h1')
      have hP : Rd wr w5.heap.size P kp 3 (c3s r) := h2.rd.below hbr (Nat.le_refl _)
      have hsr := hbr.size
      clear hrk h1 h1' hc hc' hrl hrb hkp hkp' hcnt hlo hhi hcor1 m1 m2 m3 m4 e1 e2 e3 e4
      have zk : (k : Int) < (m : Int) := by omega
      have zk0 : (0 : Int) ≤ (k : Int) := by omega
      obtain ⟨wo, rfl⟩ : ∃ wo : World, wo = wr := ⟨_, rfl⟩
      go_wp2_with fail
      go_loopw [9, 10] (fun nn i ws => ∃ j : Nat, j ≤ kp ∧ i = .int .i64 j ∧ nn = .int .i64 (cntTo r j) ∧ Hid (∃ q, ws = wo.drewN q)) (fun _ i _ => kp - (intOf i).toNat)
      case atStart => exact ⟨0, by omega, rfl, rfl, 0, rfl⟩
      case round =>
        obtain ⟨j, hj, rfl, rfl, hw⟩ := hrel
        have hq1 : wr.cell? ⟨b, o + k, none⟩ = some (.slice P kp cp) := by obtain ⟨q, rfl⟩ := hw.out; exact q1
        have hcb := cntTo_le r j
        by_cases hltj : j < kp
        · have hPr : Rd wr w5.heap.size P kp 3 (c3s r) := by obtain ⟨q, rfl⟩ := hw.out; exact hP
          obtain ⟨b1, o1, xa, ya, za, rfl, -, hpa, qa1, qa2, qa3⟩ := hPr.at3 hltj
          obtain ⟨j1, hj1⟩ : ∃ j1 : Nat, (j + 1) % kp = j1 := ⟨_, rfl⟩
          have hjl : j1 < kp := by rw [← hj1]; exact Nat.mod_lt _ (by omega)
          have hjI : ((j : Int) + 1) % (kp : Int) = (j1 : Int) := by rw [← hj1]; simp
          have Hj := Lib.hid hj1
          clear hj1
          obtain ⟨b2, o2, xn, yn, zn, e2, -, hpn, qn1, qn2, qn3⟩ := hPr.at3 hjl
          simp only [Option.some.injEq, Addr.mk.injEq, and_true] at e2
          obtain ⟨rfl, rfl⟩ := e2
          have hst : Hid (cntTo r (j + 1) = cntTo r j + wt (xa, ya, za) (xn, yn, zn)) := by
            show _ = _
            rw [cntTo, Hkp.out, Hj.out, hpa.out, hpn.out]
          have zj : (j : Int) < (kp : Int) := by omega
          have zj0 : (0 : Int) ≤ (j : Int) := by omega
          have zj1 : (j1 : Int) < (kp : Int) := by omega
          have zj10 : (0 : Int) ≤ (j1 : Int) := by omega
          generalize cntTo r j = C at *
          cases za with
          | false =>
            go_wp2_with fail
            go_roundw
            case rel => exact ⟨j + 1, by omega, by go_num, by rw [hst.out]; simp [wt], hw⟩
            case measure => simp [intOf]; omega
          | true =>
            have wj : IntKind.i64.wrap ((j : Int) + 1) = (j : Int) + 1 := IntWalk.i64_in _ (by omega)
            have wj0 : (0 : Int) ≤ (j : Int) + 1 := by omega
            go_wp2_with fail
            go_quiet (fail)
            clear wj wj0 hjI
            cases zn with
            | true =>
              go_wp2_with fail
              go_roundw
              case rel => exact ⟨j + 1, by omega, by go_num, by rw [hst.out]; simp [wt], by obtain ⟨q, rfl⟩ := hw.out; exact ⟨q + _, by rw [World.drewN_drewN]⟩⟩
              case measure => simp [intOf]; omega
            | false =>
              go_wp2_with fail
              go_roundw
              case rel => exact ⟨j + 1, by omega, by go_num, by rw [hst.out]; simp [wt], by obtain ⟨q, rfl⟩ := hw.out; exact ⟨q + _, by rw [World.drewN_drewN]⟩⟩
              case measure => simp [intOf]; omega
        · have hjk : Hid (cntTo r j = kp') := by
            show _ = _
            rw [Hcnt.out, show j = kp by omega]
          have hP2 : Rd wr w5.heap.size P kp 3 (c3s r) := by obtain ⟨q, rfl⟩ := hw.out; exact hP
          have hbr2 : Below w5.heap.size w5 wr := by obtain ⟨q, rfl⟩ := hw.out; exact below_drewN hbr q
          have hq2 : wr.cell? ⟨b', o' + k, none⟩ = some (.slice P' kp' cp') := by obtain ⟨q, rfl⟩ := hw.out; exact q2
          have hcne : ((cntTo r j : Int) != (kp' : Int)) = false := by rw [hjk.out]; simp
          have hP' : Rd wr w5.heap.size P' kp' 2 (c2s (rowL (ringL r))) := h2'.rd.below hbr2 (Nat.le_refl _)
          have hsr2 := hbr2.size
          generalize cntTo r j = C at *
          clear q1 q2
          go_wp2_with fail
          refine (box_at _ w5.heap.size P _ kp cp _ _ r (lx, ly) (ux, uy) true Hlo.out Hhi.out Hz.out hP2 hsr2 (by omega)).mono ?_
          rintro e w6 ⟨rfl, hb6⟩
          have hb56 : Below w5.heap.size w5 w6 := hbr2.trans (hb6.mono hsr2)
          have hq3 : w6.cell? ⟨b', o' + k, none⟩ = some (.slice P' kp' cp') := cellB hb6 hq2
          have zb' : b' < w6.heap.size := by have := hb56.size; omega
          have hP6 : Rd w6 w5.heap.size P' kp' 2 (c2s (rowL (ringL r))) := hP'.below hb6 hsr2
          have hs6 := hb56.size
          clear hb6 hq1 hq2 hP'
          go_wp2_with fail
          obtain ⟨W8, hW8⟩ : ∃ W8, (w6.alloc (.cells #[.int .i64 lx, .int .i64 ly, .bool false] 40)).alloc (.cells #[.int .i64 ux, .int .i64 uy, .bool false] 40) = W8 := ⟨_, rfl⟩
          have hb8 : Below w6.heap.size w6 W8 := by rw [← hW8]; exact ((Below.refl _ _).alloc (Nat.le_refl _) _).alloc (by simp) _
          have l0 : Hid (W8.cell? ⟨w6.heap.size, 0, none⟩ = some (.int .i64 lx)) := by rw [← hW8]; show _ = _; simp [go_sem]
          have l1 : Hid (W8.cell? ⟨w6.heap.size, 1, none⟩ = some (.int .i64 ly)) := by rw [← hW8]; show _ = _; simp [go_sem]
          have u0 : Hid (W8.cell? ⟨w6.heap.size + 1, 0, none⟩ = some (.int .i64 ux)) := by rw [← hW8]; show _ = _; simp [go_sem]
          have u1 : Hid (W8.cell? ⟨w6.heap.size + 1, 1, none⟩ = some (.int .i64 uy)) := by rw [← hW8]; show _ = _; simp [go_sem]
          have hq8 : Hid (W8.cell? ⟨b', o' + k, none⟩ = some (.slice P' kp' cp')) := cellB hb8 hq3
          have hP8 : Rd W8 w5.heap.size P' kp' 2 (c2s (rowL (ringL r))) := hP6.below hb8 hs6
          have hb58 : Below w5.heap.size w5 W8 := hb56.trans (hb8.mono hs6)
          rw [hW8]
          clear hW8 hq3 hP6 hb8
          go_loopw [14] (fun i ws => ∃ j : Nat, j ≤ kp' ∧ i = .int .i64 j ∧ Hid (∃ q, ws = W8.drewN q)) (fun i _ => kp' - (intOf i).toNat)
          case atStart => exact ⟨0, by omega, rfl, 0, rfl⟩
          case round =>
            obtain ⟨i, hi, rfl, hwi⟩ := hrel
            have hq9 : wr.cell? ⟨b', o' + k, none⟩ = some (.slice P' kp' cp') := by obtain ⟨q, rfl⟩ := hwi.out; exact hq8.out
            by_cases hlti : i < kp'
            · have hPi : Rd wr w5.heap.size P' kp' 2 (c2s (rowL (ringL r))) := by obtain ⟨q, rfl⟩ := hwi.out; exact hP8
              obtain ⟨b3, o3, px, py, rfl, -, hp, t1, t2⟩ := hPi.at2 hlti
              obtain ⟨⟨i1, i2⟩, ⟨i3, i4⟩⟩ := hin.out _ (List.mem_of_getElem? hp.out)
              dsimp only at i1 i2 i3 i4
              have y0 : wr.cell? ⟨w6.heap.size, 0, none⟩ = some (.int .i64 lx) := by obtain ⟨q, rfl⟩ := hwi.out; exact l0.out
              have y1 : wr.cell? ⟨w6.heap.size, 1, none⟩ = some (.int .i64 ly) := by obtain ⟨q, rfl⟩ := hwi.out; exact l1.out
              have y2 : wr.cell? ⟨w6.heap.size + 1, 0, none⟩ = some (.int .i64 ux) := by obtain ⟨q, rfl⟩ := hwi.out; exact u0.out
              have y3 : wr.cell? ⟨w6.heap.size + 1, 1, none⟩ = some (.int .i64 uy) := by obtain ⟨q, rfl⟩ := hwi.out; exact u1.out
              have d1 : decide (px < lx) = false := by simp; omega
              have d2 : decide (ux < px) = false := by simp; omega
              have d3 : decide (py < ly) = false := by simp; omega
              have d4 : decide (uy < py) = false := by simp; omega
              have zi : (i : Int) < (kp' : Int) := by omega
              have zi0 : (0 : Int) ≤ (i : Int) := by omega
              clear hp hPi
              go_wp2_with fail
              go_quiet (fail)
              go_wp2_with fail
              go_roundw
              case rel => exact ⟨i + 1, by omega, by go_num, by obtain ⟨q, rfl⟩ := hwi.out; exact ⟨q + _, by rw [World.drewN_drewN]⟩⟩
              case measure => simp [intOf]; omega
            · go_wp2_with fail
              go_roundw
              case rel => exact ⟨k + 1, by omega, by go_num, by obtain ⟨q, rfl⟩ := hwi.out; exact below_drewN hb58 q⟩
              case measure => simp [intOf]; omega
    · have bwr : Below w.heap.size w wr := bw5.trans (hbr.mono bw5.size)
      go_wp2_with fail
      refine (drawn_ok _).mono ?_
      rintro e w6 ⟨rfl, hb6⟩
      have bw6 : Below w.heap.size w w6 := bwr.trans (hb6.mono bwr.size)
      clear hb6
      go_wp2_with fail
      go_ret
      exact ⟨rfl, bw6⟩

theorem within_walk (w : World) (A E : Option Addr) (n c m d : Nat) (ps : List P3) (es : List Int) (hA : Rd w w.heap.size A n 3 (c3s ps)) (hE : Rd w w.heap.size E m 1 (cIs es)) (hn : n ≤ 9223372036854775807) :
    Calls Try.prog 9 #[.agg #[.slice A n c, .slice E m d]] w fun e w' => e = .returned (.bool true) ∧ Below w.heap.size w w' := by
  cases h : rightB ps es with
  | true => exact within_yes w A E n c m d ps es hA hE h
  | false => exact within_no w A E n c m d ps es hA hE hn h
end Go.Proofs.Ytfpdbdbgemolgaa
