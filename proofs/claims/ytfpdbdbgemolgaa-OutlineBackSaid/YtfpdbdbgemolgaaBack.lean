/- The walk of fleuronlaw03.OutlineBack: it returns true, and what was there is as it was. -/
import Derived.Test.YtfpdbdbgemolgaaTold2
import Derived.Test.YtfpdbdbgemolgaaPureBack
namespace Go.Proofs.Ytfpdbdbgemolgaa
open Go.RowKit

set_option maxRecDepth 100000 in
set_option maxHeartbeats 4000000 in
theorem back_no (w : World) (A E : Option Addr) (n c m d : Nat) (ps : List P3) (es : List Int) (hA : Rd w w.heap.size A n 3 (c3s ps)) (hE : Rd w w.heap.size E m 1 (cIs es)) (hn : n ≤ 9223372036854775807) (h : rightB ps es = false) :
    Calls Try.prog 10 #[.agg #[.slice A n c, .slice E m d]] w fun e w' => e = .returned (.bool true) ∧ Below w.heap.size w w' := by
  have HR := Lib.hid h
  clear h
  go_enter Try.func10, Try.ntmps10
  go_wp2_with fail
  refine (right_at _ w.heap.size A E n c m d ps es _ HR.out (hA.alloc (Nat.le_refl _) _) (hE.alloc (Nat.le_refl _) _) (by simp) hn).mono ?_
  rintro e w2 ⟨rfl, hb2⟩
  have bw2 : Below w.heap.size w w2 := ((Below.refl _ w).alloc (Nat.le_refl _) _).trans (hb2.mono (by simp))
  go_wp2_with fail
  refine (drawn_ok _).mono ?_
  rintro e w3 ⟨rfl, hb3⟩
  have bw3 : Below w.heap.size w w3 := bw2.trans (hb3.mono bw2.size)
  go_wp2
  go_ret
  exact ⟨rfl, bw3⟩

set_option maxRecDepth 100000 in
set_option maxHeartbeats 8000000 in
theorem back_yes (w : World) (A E : Option Addr) (n c m d : Nat) (ps : List P3) (es : List Int) (hA : Rd w w.heap.size A n 3 (c3s ps)) (hE : Rd w w.heap.size E m 1 (cIs es)) (hR : rightB ps es = true) :
    Calls Try.prog 10 #[.agg #[.slice A n c, .slice E m d]] w fun e w' => e = .returned (.bool true) ∧ Below w.heap.size w w' := by
  obtain ⟨hr1, hr2, hr3, hr4⟩ := rightB_true ps es hR
  have hlen := hA.len3
  have helen := hE.lenI
  have hbd : ∀ p ∈ ps, Bd p := fun p hp => hr3 p hp
  have hsrt : Srt ps.length 0 (pcsF n 0 0 es) := by rw [hlen]; exact pcsF_srt n es 0 0
  have hbd' : ∀ p ∈ revAll ps (pcsF n 0 0 es), Bd p := fun p hp => by
    obtain ⟨t, ht⟩ := List.getElem?_of_mem hp
    rw [revAll_get _ ps 0 t hsrt] at ht
    exact hbd p (List.mem_of_getElem? ht)
  have hL0 : linesL (spz (ps.map (gpt 0 0)) (ps.map gon)) (pcsF n 0 0 es) = linesL ps (pcsF n 0 0 es) := by
    rw [spz_grid, mv_tr 0 0 (by unfold bd; omega) (by unfold bd; omega) ps hbd, tr_zero]
  have hL1 : linesL (spz ((revAll ps (pcsF n 0 0 es)).map (gpt 0 0)) ((revAll ps (pcsF n 0 0 es)).map gon)) (pcsF n 0 0 es) = linesL (revAll ps (pcsF n 0 0 es)) (pcsF n 0 0 es) := by
    rw [spz_grid, mv_tr 0 0 (by unfold bd; omega) (by unfold bd; omega) _ hbd', tr_zero]
  have hpn : (pcsF n 0 0 es).length = m := by rw [endsR_pcs n es (-1) 0 0 (by omega) (by rw [hlen] at hr4; exact hr4), helen]
  have hrow : ∀ (k : Nat) (r : List P3), (contL ps (pcsF n 0 0 es))[k]? = some r → (linesL ps (pcsF n 0 0 es))[k]? = some (rowL (ringL r)) ∧ (linesL (revAll ps (pcsF n 0 0 es)) (pcsF n 0 0 es))[k]? = some (rowL (ringL (turn r))) ∧ (∀ p ∈ r, Bd p) ∧ 0 < r.length ∧ r.length ≤ 200 := fun k r h => by
    simp only [contL, linesL, List.getElem?_map, Option.map_eq_some_iff] at h ⊢
    obtain ⟨p, hp, rfl⟩ := h
    obtain ⟨-, h1, h2⟩ := pcsF_mem n es 0 0 p (List.mem_of_getElem? hp)
    refine ⟨⟨p, hp, rfl⟩, ⟨p, hp, ?_⟩, fun q hq => hbd q (seg_mem _ _ _ _ hq), ?_, ?_⟩
    · rw [seg_revAll ps _ 0 hsrt p (List.mem_of_getElem? hp) ⟨h1, by omega⟩]
    · rw [seg_length ps p.2.1 p.2.2 (by omega)]; omega
    · rw [seg_length ps p.2.1 p.2.2 (by omega)]; omega
  have hcn : (contL ps (pcsF n 0 0 es)).length = m := by rw [← hpn]; simp [contL]
  have hln : (linesL ps (pcsF n 0 0 es)).length = m := by rw [← hpn]; simp [linesL]
  have hln' : (linesL (revAll ps (pcsF n 0 0 es)) (pcsF n 0 0 es)).length = m := by rw [← hpn]; simp [linesL]
  rw [hlen] at hr1
  rw [helen] at hr2
  have HL0 := Lib.hid hL0
  have HL1 := Lib.hid hL1
  generalize linesL ps (pcsF n 0 0 es) = rows at *
  generalize linesL (revAll ps (pcsF n 0 0 es)) (pcsF n 0 0 es) = rows' at *
  generalize hct : contL ps (pcsF n 0 0 es) = cts at *
  have Hct := Lib.hid hct
  have Hrow := Lib.hid hrow
  have Hcn := Lib.hid hcn
  have Hln := Lib.hid hln
  have Hln' := Lib.hid hln'
  have HR := Lib.hid hR
  have Hlen := Lib.hid hlen
  clear hL0 hL1 hR hlen helen hr3 hr4 hbd hbd' hct hrow hcn hln hln' hpn hsrt
  go_enter Try.func10, Try.ntmps10
  go_wp2_with fail
  refine (right_at _ w.heap.size A E n c m d ps es _ HR.out (hA.alloc (Nat.le_refl _) _) (hE.alloc (Nat.le_refl _) _) (by simp) (by omega)).mono ?_
  rintro e w1 ⟨rfl, hb1⟩
  have hO1 : Bk w1 w.heap.size 25 #[.slice A n c, .slice E m d] := (hb1.block _ (by simp)).trans (Bk.new _ _ _)
  have bw1 : Below w.heap.size w w1 := ((Below.refl _ w).alloc (Nat.le_refl _) _).trans (hb1.mono (by simp))
  have k0 : w1.cell? ⟨w.heap.size, 0, none⟩ = some (.slice A n c) := hO1.cell 0
  have k1 : w1.cell? ⟨w.heap.size, 1, none⟩ = some (.slice E m d) := hO1.cell 1
  clear hb1
  go_wp2_with fail
  refine (told_ok w1 w.heap.size A E n c m d ps es (hA.below bw1 (Nat.le_refl _)) (hE.below bw1 (Nat.le_refl _)) bw1.size (by omega) (by omega)).mono ?_
  rintro e w2 ⟨v2, hs2, rfl, hown2, hr2c, hb2⟩
  have hB2 : Bk w2 w.heap.size 25 #[.slice A n c, .slice E m d] := (hb2.block _ hO1.lt).trans hO1
  have bw2 : Below w.heap.size w w2 := bw1.trans (hb2.mono bw1.size)
  rw [Hct.out] at hr2c
  have hl2 : hs2.length = m := by rw [hr2c.1, Hcn.out]
  obtain ⟨A2, c2, rfl, hd2⟩ := Rd.of_own hown2
  rw [hl2] at hd2 ⊢
  clear hb2 k0 k1 hown2 hl2
  go_wp2_with fail
  go_loopw [5] (fun i wr => ∃ k : Nat, k ≤ m ∧ i = .int .i64 k ∧ Below w2.heap.size w2 wr ∧ Hid (∀ (j : Nat) (r : List P3), j < k → cts[j]? = some r → ∃ q : P3, r[0]? = some q ∧ q.2.2 = true)) (fun i _ => m - (intOf i).toNat)
  case atStart => exact ⟨0, by omega, rfl, Below.refl _ _, fun j r h => by omega⟩
  case round =>
    obtain ⟨k, hk, rfl, hbr, hon⟩ := hrel
    have hsr := hbr.size
    by_cases hlt : k < m
    · obtain ⟨r, hrk⟩ : ∃ r, cts[k]? = some r := ⟨_, List.getElem?_eq_getElem (by rw [Hcn.out]; exact hlt)⟩
      obtain ⟨-, -, hrb, hr0, hr200⟩ := Hrow.out k r hrk
      obtain ⟨P, kp, cp, h1, -, -, h2⟩ := hr2c.2 k r hrk
      have hkp := h2.rd.len3
      rw [hkp] at hr0 hr200
      have Hkp := Lib.hid hkp
      obtain ⟨b, o, rfl, hbb, hc⟩ := hd2.2 (by omega)
      have q1 : wr.cell? ⟨b, o + k, none⟩ = some (.slice P kp cp) := cellB hbr (hc k _ h1)
      have q1' : Hid (w2.cell? ⟨b, o + k, none⟩ = some (.slice P kp cp)) := hc k _ h1
      obtain ⟨b1, o1, xa, ya, za, rfl, -, hpa, qa1, qa2, qa3⟩ := (h2.rd.below hbr (Nat.le_refl _)).at3 hr0
      simp only [Nat.zero_mul, Nat.add_zero] at qa1 qa2 qa3
      have zk : (k : Int) < (m : Int) := by omega
      have zk0 : (0 : Int) ≤ (k : Int) := by omega
      have zkp : ((kp : Int) == 0) = false := by simp; omega
      have zkp1 : (0 : Int) < (kp : Int) := by omega
      have zkp2 : decide ((0 : Int) < (kp : Int)) = true := by simp; omega
      have hon' : Hid (za = true → ∀ (j : Nat) (r : List P3), j < k + 1 → cts[j]? = some r → ∃ q : P3, r[0]? = some q ∧ q.2.2 = true) := fun hz j r' hj hr' => by
        by_cases hjk : j < k
        · exact hon.out j r' hjk hr'
        · have : j = k := by omega
          subst this
          rw [hrk] at hr'
          cases hr'
          exact ⟨_, hpa.out, hz⟩
      clear hrk h1 hc hrb hkp hpa
      cases za with
      | true =>
        go_wp2_with fail
        go_roundw
        case rel => exact ⟨k + 1, by omega, by go_num, hbr, hon'.out rfl⟩
        case measure => simp [intOf]; omega
      | false =>
        have bwr : Below w.heap.size w wr := bw2.trans (hbr.mono bw2.size)
        go_wp2_with fail
        refine (drawn_ok _).mono ?_
        rintro e w6 ⟨rfl, hb6⟩
        have bw6 : Below w.heap.size w w6 := bwr.trans (hb6.mono bwr.size)
        have q6 : w6.cell? ⟨b, o + k, none⟩ = some (.slice (some ⟨b1, o1, none⟩) kp cp) := cellB hb6 q1
        clear hb6 q1
        go_wp2_with fail
        go_ret
        exact ⟨by simp, bw6⟩
    · have hall : Hid (∀ (j : Nat) (r : List P3), cts[j]? = some r → ∃ q : P3, r[0]? = some q ∧ q.2.2 = true) := fun j r h => hon.out j r (by have h5 := (List.getElem?_eq_some_iff.1 h).1; rw [Hcn.out] at h5; omega) h
      have bwr : Below w.heap.size w wr := bw2.trans (hbr.mono bw2.size)
      have hBr : Bk wr w.heap.size 25 #[.slice A n c, .slice E m d] := hB2.below hbr
      have k0 : wr.cell? ⟨w.heap.size, 0, none⟩ = some (.slice A n c) := hBr.cell 0
      have k1 : wr.cell? ⟨w.heap.size, 1, none⟩ = some (.slice E m d) := hBr.cell 1
      obtain ⟨wx, rfl⟩ : ∃ wx : World, wx = wr := ⟨_, rfl⟩
      clear hon hbr hr2c hd2
      go_wp2_with fail
      refine (grid_ok _ w.heap.size A E n c m d ps 0 0 (hA.below bwr (Nat.le_refl _)) bwr.size (by omega)).mono ?_
      rintro e w3 ⟨A3, n3, c3, O3, co3, rfl, -, -, hA3, hO3, hb3⟩
      obtain rfl : n = n3 := by rw [← hA3.len2, List.length_map, Hlen.out]
      have hB3 := hBr.below hb3
      have bw3 : Below w.heap.size w w3 := bwr.trans (hb3.mono bwr.size)
      have k30 : w3.cell? ⟨w.heap.size, 0, none⟩ = some (.slice A n c) := hB3.cell 0
      have k31 : w3.cell? ⟨w.heap.size, 1, none⟩ = some (.slice E m d) := hB3.cell 1
      clear hb3 k0 k1
      go_wp2_with fail
      refine (reversed_ok _ w.heap.size A E n c m d ps es (hA.below bw3 (Nat.le_refl _)) (hE.below bw3 (Nat.le_refl _)) bw3.size (by omega) (by omega)).mono ?_
      rintro e w4 ⟨A4, n4, c4, E4, m4, d4, rfl, -, hA4, hE4, hb4⟩
      obtain rfl : n = n4 := by rw [← hA4.len3, revAll_length, Hlen.out]
      have hB4 := hB3.below hb4
      have bw4 : Below w.heap.size w w4 := bw3.trans (hb4.mono bw3.size)
      have hA34 : Rd w4 w4.heap.size A3 n 2 (c2s (ps.map (gpt 0 0))) := (hA3.below hb4 (Nat.le_refl _)).mono hb4.size
      have hO34 : Rd w4 w4.heap.size O3 n 1 (cBs (ps.map gon)) := (hO3.below hb4 (Nat.le_refl _)).mono hb4.size
      clear hb4 k30 k31 hA3 hO3
      go_wp2_with fail
      refine (grid_ok _ w4.heap.size A4 E4 n c4 m4 d4 _ 0 0 hA4 (Nat.le_refl _) (by omega)).mono ?_
      rintro e w5 ⟨A5, n5, c5, O5, co5, rfl, -, -, hA5, hO5, hb5⟩
      obtain rfl : n = n5 := by rw [← hA5.len2, List.length_map, revAll_length, Hlen.out]
      have hB5 := hB4.below hb5
      have bw5 : Below w.heap.size w w5 := bw4.trans (hb5.mono bw4.size)
      have k51 : w5.cell? ⟨w.heap.size, 1, none⟩ = some (.slice E m d) := hB5.cell 1
      have hA35 : Rd w5 w5.heap.size A3 n 2 (c2s (ps.map (gpt 0 0))) := (hA34.below hb5 (Nat.le_refl _)).mono hb5.size
      have hO35 : Rd w5 w5.heap.size O3 n 1 (cBs (ps.map gon)) := (hO34.below hb5 (Nat.le_refl _)).mono hb5.size
      clear hb5 hA34 hO34 hA4 hE4
      go_wp2_with fail
      refine (lines_ok w5 w5.heap.size A3 O3 E n c3 co3 m d _ _ es hA35 hO35 ((hE.below bw5 (Nat.le_refl _)).mono bw5.size) (Nat.le_refl _) (by omega) (by omega)).mono ?_
      rintro e w6 ⟨v6, hs6, rfl, hown6, hr6, hb6⟩
      have hB6 := hB5.below hb6
      have bw6 : Below w.heap.size w w6 := bw5.trans (hb6.mono bw5.size)
      have k61 : w6.cell? ⟨w.heap.size, 1, none⟩ = some (.slice E m d) := hB6.cell 1
      have hA56 := (hA5.below hb6 (Nat.le_refl _)).mono hb6.size
      have hO56 := (hO5.below hb6 (Nat.le_refl _)).mono hb6.size
      rw [HL0.out] at hr6
      clear hb6 k51 hA35 hO35 hA5 hO5
      obtain ⟨A6, c6, rfl, -⟩ := Rd.of_own hown6
      go_wp2_with fail
      refine (lines_ok w6 w6.heap.size A5 O5 E n c5 co5 m d _ _ es hA56 hO56 ((hE.below bw6 (Nat.le_refl _)).mono bw6.size) (Nat.le_refl _) (by omega) (by omega)).mono ?_
      rintro e w7 ⟨v7, hs7, rfl, hown7, hr7, hb7⟩
      have hB7 := hB6.below hb7
      have bw7 : Below w.heap.size w w7 := bw6.trans (hb7.mono bw6.size)
      have k71 : w7.cell? ⟨w.heap.size, 1, none⟩ = some (.slice E m d) := hB7.cell 1
      rw [HL1.out] at hr7
      have hown67 := own_below hown6 hb7
      have hr67 : RowsIn2 w7 hs6 rows := rowsIn_kept hr6 (fun A k r h => h.below hb7)
      have hl6 : hs6.length = m := by rw [hr67.1, Hln.out]
      have hl7 : hs7.length = m := by rw [hr7.1, Hln'.out]
      clear hb7 k61 hA56 hO56 hown6 hr6
      obtain ⟨A7, c7, rfl, hd7⟩ := Rd.of_own hown7
      obtain ⟨A6', c6', e6, hd6⟩ := Rd.of_own hown67
      simp only [Value.slice.injEq, true_and] at e6
      obtain ⟨rfl, rfl⟩ := e6
      rw [hl7] at hd7 ⊢
      rw [hl6] at hd6 ⊢
      have hne : ((m : Int) != (m : Int)) = false := by simp
      clear hl6 hl7 hown7 hown67
      go_wp2_with fail
      go_loopw [12] (fun i wr => ∃ k : Nat, k ≤ m ∧ i = .int .i64 k ∧ Hid (∃ q, wr = w7.drewN q)) (fun i _ => m - (intOf i).toNat)
      case atStart => exact ⟨0, by omega, rfl, 0, rfl⟩
      case round =>
        obtain ⟨i, hi, rfl, hw⟩ := hrel
        by_cases hlti : i < m
        · obtain ⟨r, hrk⟩ : ∃ r, cts[i]? = some r := ⟨_, List.getElem?_eq_getElem (by rw [Hcn.out]; exact hlti)⟩
          obtain ⟨hl1, hl2, hrb, hr0, hr200⟩ := Hrow.out i r hrk
          obtain ⟨q0, hq0, hqon⟩ := hall.out i r hrk
          obtain ⟨hba, hbb, hbc⟩ := rowL_back r q0 hq0 hqon hrb
          obtain ⟨P, kp, cp, h1, h2⟩ := hr67.2 i _ hl1
          obtain ⟨P', kp', cp', h1', h2'⟩ := hr7.2 i _ hl2
          have hkp := h2.rd.len2
          have hkp' := h2'.rd.len2
          obtain rfl : kp = kp' := by rw [← hkp, ← hkp', hba]
          rw [hkp] at hbb hbc
          have hrl2 := rowL_len (ringL r)
          rw [ringL_len] at hrl2
          have hrt := ringTo_len r r.length
          rw [hkp] at hrl2
          have Hbc := Lib.hid hbc
          obtain ⟨b, o, rfl, -, hc⟩ := hd6.2 (by omega)
          obtain ⟨b', o', rfl, -, hc'⟩ := hd7.2 (by omega)
          have Hc1 : Hid (w7.cell? ⟨b, o + i, none⟩ = some (.slice P kp cp)) := hc i _ h1
          have Hc2 : Hid (w7.cell? ⟨b', o' + i, none⟩ = some (.slice P' kp cp')) := hc' i _ h1'
          have q1 : wr.cell? ⟨b, o + i, none⟩ = some (.slice P kp cp) := by obtain ⟨q, rfl⟩ := hw.out; exact Hc1.out
          have q2 : wr.cell? ⟨b', o' + i, none⟩ = some (.slice P' kp cp') := by obtain ⟨q, rfl⟩ := hw.out; exact Hc2.out
          clear hrk h1 h1' hc hc' hl1 hl2 hrb hkp hkp' hba hbc hq0 hqon
          have zi : (i : Int) < (m : Int) := by omega
          have zi0 : (0 : Int) ≤ (i : Int) := by omega
          have hne2 : ((kp : Int) != (kp : Int)) = false := by simp
          go_wp2_with fail
          clear q1 q2 hne2
          go_loopw [14] (fun i ws => ∃ j : Nat, j ≤ kp ∧ i = .int .i64 j ∧ Hid (∃ q, ws = w7.drewN q)) (fun i _ => kp - (intOf i).toNat)
          case atStart => exact ⟨0, by omega, rfl, hw⟩
          case round =>
            obtain ⟨j, hj, rfl, hwj⟩ := hrel
            by_cases hltj : j < kp
            · have q1 : wr.cell? ⟨b, o + i, none⟩ = some (.slice P kp cp) := by obtain ⟨q, rfl⟩ := hwj.out; exact Hc1.out
              have q2 : wr.cell? ⟨b', o' + i, none⟩ = some (.slice P' kp cp') := by obtain ⟨q, rfl⟩ := hwj.out; exact Hc2.out
              have hr1 : Rd wr w7.heap.size P kp 2 (c2s (rowL (ringL r))) := by obtain ⟨q, rfl⟩ := hwj.out; exact h2.rd
              have hr2 : Rd wr w7.heap.size P' kp 2 (c2s (rowL (ringL (turn r)))) := by obtain ⟨q, rfl⟩ := hwj.out; exact h2'.rd
              obtain ⟨j1, hj1⟩ : ∃ j1 : Nat, (kp - j) % kp = j1 := ⟨_, rfl⟩
              have hjl : j1 < kp := by rw [← hj1]; exact Nat.mod_lt _ (by omega)
              have hjI : ((kp : Int) - (j : Int)) % (kp : Int) = (j1 : Int) := by
                rw [← hj1, Int.natCast_emod, Int.natCast_sub (by omega)]
              have Hj := Lib.hid hj1
              clear hj1
              obtain ⟨b1, o1, px, py, rfl, -, hp, u1, u2⟩ := hr1.at2 hjl
              obtain ⟨b2, o2, px', py', rfl, -, hp', u3, u4⟩ := hr2.at2 hltj
              have he : px' = px ∧ py' = py := by
                have h5 := Hbc.out j hltj
                rw [Hj.out, hp.out, hp'.out] at h5
                simpa using h5
              obtain ⟨rfl, rfl⟩ := he
              have zj : (j : Int) < (kp : Int) := by omega
              have zj0 : (0 : Int) ≤ (j : Int) := by omega
              have zj1 : (j1 : Int) < (kp : Int) := by omega
              have zj10 : (0 : Int) ≤ (j1 : Int) := by omega
              have wj : IntKind.i64.wrap ((kp : Int) - (j : Int)) = (kp : Int) - (j : Int) := IntWalk.i64_in _ (by omega)
              have wj0 : (0 : Int) ≤ (kp : Int) - (j : Int) := by omega
              have neq47 := run_neq47
              have eg := eg47
              clear hp hp' hr1 hr2
              go_wp2_with fail
              go_quiet (fail)
              clear wj wj0 hjI
              go_wp2_with fail
              go_roundw
              case rel => exact ⟨j + 1, by omega, by go_num, by obtain ⟨q, rfl⟩ := hwj.out; exact ⟨q + _, by rw [World.drewN_drewN]⟩⟩
              case measure => simp [intOf]; omega
            · go_wp2_with fail
              go_roundw
              case rel => exact ⟨i + 1, by omega, by go_num, hwj⟩
              case measure => simp [intOf]; omega
        · have bw8 : Below w.heap.size w wr := by obtain ⟨q, rfl⟩ := hw.out; exact below_drewN bw7 q
          go_wp2_with fail
          refine (drawn_ok _).mono ?_
          rintro e w9 ⟨rfl, hb9⟩
          have bw9 : Below w.heap.size w w9 := bw8.trans (hb9.mono bw8.size)
          go_wp2
          go_ret
          exact ⟨rfl, bw9⟩

theorem back_walk (w : World) (A E : Option Addr) (n c m d : Nat) (ps : List P3) (es : List Int) (hA : Rd w w.heap.size A n 3 (c3s ps)) (hE : Rd w w.heap.size E m 1 (cIs es)) (hn : n ≤ 9223372036854775807) :
    Calls Try.prog 10 #[.agg #[.slice A n c, .slice E m d]] w fun e w' => e = .returned (.bool true) ∧ Below w.heap.size w w' := by
  cases h : rightB ps es with
  | true => exact back_yes w A E n c m d ps es hA hE h
  | false => exact back_no w A E n c m d ps es hA hE hn h
end Go.Proofs.Ytfpdbdbgemolgaa
