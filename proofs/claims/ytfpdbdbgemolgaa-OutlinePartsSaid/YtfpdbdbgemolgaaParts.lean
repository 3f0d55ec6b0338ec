/- The walk of fleuronlaw03.OutlineParts: it returns true, and what was there is as it was. -/
import Derived.Test.YtfpdbdbgemolgaaTold2
import Derived.Test.YtfpdbdbgemolgaaPureRow
namespace Go.Proofs.Ytfpdbdbgemolgaa
open Go.RowKit

theorem parts_pure (r : List P3) (h : ∀ p ∈ r, (-16384 ≤ p.1 ∧ p.1 ≤ 16384) ∧ (-16384 ≤ p.2.1 ∧ p.2.1 ≤ 16384)) (h0 : 0 < r.length) : linesL (spz (r.map (gpt 0 0)) (r.map gon)) (pcsF r.length 0 0 [(r.length : Int) - 1]) = [rowL (ringL r)] := by
  rw [spz_grid, mv_tr 0 0 (by unfold bd; omega) (by unfold bd; omega) r (fun p hp => h p hp), tr_zero, pcsF, if_pos (by omega), pcsF]
  have e : ((r.length : Int) - 1).toNat = r.length - 1 := by omega
  have e2 : r.length - 1 + 1 - 0 = r.length := by omega
  simp only [linesL, List.map_cons, List.map_nil, e, seg, e2, List.drop_zero, List.take_length]

set_option maxRecDepth 100000 in
set_option maxHeartbeats 4000000 in
theorem parts_no (w : World) (A E : Option Addr) (n c m d : Nat) (ps : List P3) (es : List Int) (hA : Rd w w.heap.size A n 3 (c3s ps)) (hE : Rd w w.heap.size E m 1 (cIs es)) (hn : n ≤ 9223372036854775807) (h : rightB ps es = false) :
    Calls Try.prog 11 #[.agg #[.slice A n c, .slice E m d]] w fun e w' => e = .returned (.bool true) ∧ Below w.heap.size w w' := by
  have HR := Lib.hid h
  clear h
  go_enter Try.func11, Try.ntmps11
  go_wp2_with fail
  refine (right_at _ w.heap.size A E n c m d ps es _ HR.out (hA.alloc (Nat.le_refl _) _) (hE.alloc (Nat.le_refl _) _) (by simp) hn).mono ?_
  rintro e w2 ⟨rfl, hb2⟩
  have bw2 : Below w.heap.size w w2 := ((Below.refl _ w).alloc (Nat.le_refl _) _).trans (hb2.mono (by simp))
  go_wp2_with fail
  refine (drawn_ok _).mono ?_
  rintro e w3 ⟨rfl, hb3⟩
  have bw3 : Below w.heap.size w w3 := bw2.trans (hb3.mono bw2.size)
  go_wp2
  go_ret
  exact ⟨rfl, bw3⟩

set_option maxRecDepth 100000 in
set_option maxHeartbeats 8000000 in
theorem parts_yes (w : World) (A E : Option Addr) (n c m d : Nat) (ps : List P3) (es : List Int) (hA : Rd w w.heap.size A n 3 (c3s ps)) (hE : Rd w w.heap.size E m 1 (cIs es)) (hR : rightB ps es = true) :
    Calls Try.prog 11 #[.agg #[.slice A n c, .slice E m d]] w fun e w' => e = .returned (.bool true) ∧ Below w.heap.size w w' := by
  obtain ⟨hr1, hr2, hr3, hr4⟩ := rightB_true ps es hR
  have hlen := hA.len3
  have helen := hE.lenI
  have hbd : ∀ p ∈ ps, Bd p := fun p hp => hr3 p hp
  have hL0 : linesL (spz (ps.map (gpt 0 0)) (ps.map gon)) (pcsF n 0 0 es) = linesL ps (pcsF n 0 0 es) := by
    rw [spz_grid, mv_tr 0 0 (by unfold bd; omega) (by unfold bd; omega) ps hbd, tr_zero]
  have hpn : (pcsF n 0 0 es).length = m := by rw [endsR_pcs n es (-1) 0 0 (by omega) (by rw [hlen] at hr4; exact hr4), helen]
  have hrow : ∀ (k : Nat) (r : List P3), (contL ps (pcsF n 0 0 es))[k]? = some r → (linesL ps (pcsF n 0 0 es))[k]? = some (rowL (ringL r)) ∧ (∀ p ∈ r, (-16384 ≤ p.1 ∧ p.1 ≤ 16384) ∧ (-16384 ≤ p.2.1 ∧ p.2.1 ≤ 16384)) ∧ 0 < r.length ∧ r.length ≤ 200 := fun k r h => by
    simp only [contL, linesL, List.getElem?_map, Option.map_eq_some_iff] at h ⊢
    obtain ⟨p, hp, rfl⟩ := h
    obtain ⟨-, h1, h2⟩ := pcsF_mem n es 0 0 p (List.mem_of_getElem? hp)
    refine ⟨⟨p, hp, rfl⟩, fun q hq => hr3 q (seg_mem _ _ _ _ hq), ?_, ?_⟩ <;> rw [seg_length ps p.2.1 p.2.2 (by omega)] <;> omega
  have hcn : (contL ps (pcsF n 0 0 es)).length = m := by rw [← hpn]; simp [contL]
  have hln : (linesL ps (pcsF n 0 0 es)).length = m := by rw [← hpn]; simp [linesL]
  rw [hlen] at hr1
  rw [helen] at hr2
  have HL0 := Lib.hid hL0
  generalize linesL ps (pcsF n 0 0 es) = rows at *
  generalize hct : contL ps (pcsF n 0 0 es) = cts at *
  have Hct := Lib.hid hct
  have Hrow := Lib.hid hrow
  have Hcn := Lib.hid hcn
  have Hln := Lib.hid hln
  have HR := Lib.hid hR
  have Hlen := Lib.hid hlen
  clear hL0 hR hlen helen hr3 hr4 hbd hct hrow hcn hln hpn
  go_enter Try.func11, Try.ntmps11
  go_wp2_with fail
  refine (right_at _ w.heap.size A E n c m d ps es _ HR.out (hA.alloc (Nat.le_refl _) _) (hE.alloc (Nat.le_refl _) _) (by simp) (by omega)).mono ?_
  rintro e w1 ⟨rfl, hb1⟩
  have hO1 : Bk w1 w.heap.size 25 #[.slice A n c, .slice E m d] := (hb1.block _ (by simp)).trans (Bk.new _ _ _)
  have bw1 : Below w.heap.size w w1 := ((Below.refl _ w).alloc (Nat.le_refl _) _).trans (hb1.mono (by simp))
  have k0 : w1.cell? ⟨w.heap.size, 0, none⟩ = some (.slice A n c) := hO1.cell 0
  have k1 : w1.cell? ⟨w.heap.size, 1, none⟩ = some (.slice E m d) := hO1.cell 1
  clear hb1
  go_wp2_with fail
  refine (grid_ok _ w.heap.size A E n c m d ps 0 0 (hA.below bw1 (Nat.le_refl _)) bw1.size (by omega)).mono ?_
  rintro e w2 ⟨A2, n2, c2, O2, co2, rfl, -, -, hA2, hO2, hb2⟩
  obtain rfl : n = n2 := by rw [← hA2.len2, List.length_map, Hlen.out]
  have hB2 : Bk w2 w.heap.size 25 #[.slice A n c, .slice E m d] := (hb2.block _ hO1.lt).trans hO1
  have bw2 : Below w.heap.size w w2 := bw1.trans (hb2.mono bw1.size)
  have k20 : w2.cell? ⟨w.heap.size, 0, none⟩ = some (.slice A n c) := hB2.cell 0
  have k21 : w2.cell? ⟨w.heap.size, 1, none⟩ = some (.slice E m d) := hB2.cell 1
  clear hb2 k0 k1
  go_wp2_with fail
  refine (lines_ok w2 w2.heap.size A2 O2 E n c2 co2 m d _ _ es hA2 hO2 ((hE.below bw2 (Nat.le_refl _)).mono bw2.size) (Nat.le_refl _) (by omega) (by omega)).mono ?_
  rintro e w4 ⟨v4, hs4, rfl, hown4, hr4, hb4⟩
  have hB4 : Bk w4 w.heap.size 25 #[.slice A n c, .slice E m d] := (hb4.block _ hB2.lt).trans hB2
  have bw4 : Below w.heap.size w w4 := bw2.trans (hb4.mono bw2.size)
  have k40 : w4.cell? ⟨w.heap.size, 0, none⟩ = some (.slice A n c) := hB4.cell 0
  have k41 : w4.cell? ⟨w.heap.size, 1, none⟩ = some (.slice E m d) := hB4.cell 1
  rw [HL0.out] at hr4
  clear hb4 k20 k21 hA2 hO2
  obtain ⟨A4, c4, rfl, -⟩ := Rd.of_own hown4
  go_wp2_with fail
  refine (told_ok w4 w.heap.size A E n c m d ps es (hA.below bw4 (Nat.le_refl _)) (hE.below bw4 (Nat.le_refl _)) bw4.size (by omega) (by omega)).mono ?_
  rintro e w5 ⟨v5, hs5, rfl, hown5, hr5, hb5⟩
  have hB5 : Bk w5 w.heap.size 25 #[.slice A n c, .slice E m d] := (hb5.block _ hB4.lt).trans hB4
  have bw5 : Below w.heap.size w w5 := bw4.trans (hb5.mono bw4.size)
  have k51 : w5.cell? ⟨w.heap.size, 1, none⟩ = some (.slice E m d) := hB5.cell 1
  rw [Hct.out] at hr5
  have hown45 := own_below hown4 hb5
  have hr45 : RowsIn2 w5 hs4 rows := rowsIn_kept hr4 (fun A k r h => h.below hb5)
  have hl4 : hs4.length = m := by rw [hr45.1, Hln.out]
  have hl5 : hs5.length = m := by rw [hr5.1, Hcn.out]
  clear hb5 k40 k41 hown4 hr4
  obtain ⟨A5, c5, rfl, hd5⟩ := Rd.of_own hown5
  obtain ⟨A4', c4', e4, hd4⟩ := Rd.of_own hown45
  simp only [Value.slice.injEq, true_and] at e4
  obtain ⟨rfl, rfl⟩ := e4
  rw [hl5] at hd5 ⊢
  rw [hl4] at hd4 ⊢
  have hne : ((m : Int) != (m : Int)) = false := by simp
  have hz5 := hB5.lt
  clear hl4 hl5 hown5 hown45
  go_wp2_with fail
  go_loopw [8] (fun i wr => ∃ k : Nat, k ≤ m ∧ i = .int .i64 k ∧ Below w5.heap.size w5 wr) (fun i _ => m - (intOf i).toNat)
  case atStart => exact ⟨0, by omega, rfl, Below.refl _ _⟩
  case round =>
    obtain ⟨k, hk, rfl, hbr⟩ := hrel
    by_cases hlt : k < m
    · obtain ⟨r, hrk⟩ : ∃ r, cts[k]? = some r := ⟨_, List.getElem?_eq_getElem (by rw [Hcn.out]; exact hlt)⟩
      obtain ⟨hrl, hrb, hr0, hr200⟩ := Hrow.out k r hrk
      obtain ⟨P, kp, cp, h1, -, -, h2⟩ := hr5.2 k r hrk
      obtain ⟨P', kp', cp', h1', h2'⟩ := hr45.2 k _ hrl
      have hkp := h2.rd.len3
      have hkp' := h2'.rd.len2
      have hpure := Lib.hid (parts_pure r hrb hr0)
      rw [hkp] at hr0 hr200
      have Hkp := Lib.hid hkp
      have hrl2 := rowL_len (ringL r)
      rw [ringL_len] at hrl2
      have hrt := ringTo_len r r.length
      rw [hkp] at hrt hrl2
      rw [hkp'] at hrl2
      obtain ⟨b, o, rfl, -, hc⟩ := hd5.2 (by omega)
      obtain ⟨b', o', rfl, -, hc'⟩ := hd4.2 (by omega)
      have q1 : wr.cell? ⟨b, o + k, none⟩ = some (.slice P kp cp) := cellB hbr (hc k _ h1)
      have q2 : Hid (w5.cell? ⟨b', o' + k, none⟩ = some (.slice P' kp' cp')) := hc' k _ h1'
      have hP : Rd wr w5.heap.size P kp 3 (c3s r) := h2.rd.below hbr (Nat.le_refl _)
      have hsr := hbr.size
      clear hrk h1 h1' hc hc' hrl hrb hkp hkp'
      have zk : (k : Int) < (m : Int) := by omega
      have zk0 : (0 : Int) ≤ (k : Int) := by omega
      go_wp2_with fail
      refine (grid_ok _ w5.heap.size P _ kp cp _ _ r 0 0 hP hsr (by omega)).mono ?_
      rintro e w6 ⟨A6, n6, c6, O6, co6, rfl, -, -, hA6, hO6, hb6⟩
      obtain rfl : kp = n6 := by rw [← hA6.len2, List.length_map, Hkp.out]
      have hb56 : Below w5.heap.size w5 w6 := hbr.trans (hb6.mono hsr)
      clear hb6
      go_wp2_with fail
      refine (lines_ok _ (w6.heap.size + 1) A6 O6 (some ⟨w6.heap.size, 0, none⟩) kp c6 co6 1 1 _ _ [(kp : Int) - 1] ((hA6.alloc (Nat.le_refl _) _).mono (by omega)) ((hO6.alloc (Nat.le_refl _) _).mono (by omega)) (Rd.new w6 #[.int .i64 ((kp : Int) - 1)] 3 1 1 rfl) (by simp) (by omega) (by omega)).mono ?_
      rintro e w7 ⟨v7, hs7, rfl, hown7, hr7, hb7⟩
      have hb57 : Below w5.heap.size w5 w7 := (hb56.alloc hb56.size _).trans (hb7.mono (by have := hb56.size; simp; omega))
      have hpu := hpure.out
      rw [Hkp.out] at hpu
      rw [hpu] at hr7
      have hl7 : hs7.length = 1 := by rw [hr7.1]; rfl
      obtain ⟨A7, c7, rfl, hd7⟩ := Rd.of_own hown7
      obtain ⟨Q, kq, cq, g1, g2⟩ := hr7.2 0 _ rfl
      rw [hl7] at hd7 ⊢
      have hkq : kq = kp' := by rw [← g2.rd.len2, h2'.rd.len2]
      subst hkq
      obtain ⟨b7, o7, rfl, -, hc7⟩ := hd7.2 (by omega)
      have t1 : w7.cell? ⟨b7, o7, none⟩ = some (.slice Q kq cq) := hc7 0 _ g1
      have t2 : w7.cell? ⟨b', o' + k, none⟩ = some (.slice P' kq cp') := cellB hb57 q2.out
      have hs57 := hb57.size
      have g3 : Rd w7 w7.heap.size P' kq 2 (c2s (rowL (ringL r))) := (h2'.rd.below hb57 (Nat.le_refl _)).mono hs57
      have g4 : Rd w7 w7.heap.size Q kq 2 (c2s (rowL (ringL r))) := g2.rd
      clear hb7 hr7 hl7 hown7 hd7 hc7 g1 g2 hpu q1
      have zm : ((1 : Int) != 1) = false := by decide
      go_wp2_with fail
      go_quiet ((go_at_call 32; exact Calls.quiet_of (samePts_eq _ w7.heap.size Q P' kq cq cp' (rowL (ringL r)) (g4.drewN _) (g3.drewN _) (by omega))))
      go_wp2_with fail
      go_roundw
      case rel => exact ⟨k + 1, by omega, by go_num, below_drewN hb57 _⟩
      case measure => simp [intOf]; omega
    · have bwr : Below w.heap.size w wr := bw5.trans (hbr.mono bw5.size)
      have hsr := hbr.size
      go_wp2_with fail
      refine (drawn_ok _).mono ?_
      rintro e w6 ⟨rfl, hb6⟩
      have bw6 : Below w.heap.size w w6 := bwr.trans (hb6.mono bwr.size)
      have k61 : w6.cell? ⟨w.heap.size, 1, none⟩ = some (.slice E m d) := cellB hb6 (cellB hbr k51)
      clear hb6
      go_wp2_with fail
      go_ret
      exact ⟨by simp, bw6⟩

theorem parts_walk (w : World) (A E : Option Addr) (n c m d : Nat) (ps : List P3) (es : List Int) (hA : Rd w w.heap.size A n 3 (c3s ps)) (hE : Rd w w.heap.size E m 1 (cIs es)) (hn : n ≤ 9223372036854775807) :
    Calls Try.prog 11 #[.agg #[.slice A n c, .slice E m d]] w fun e w' => e = .returned (.bool true) ∧ Below w.heap.size w w' := by
  cases h : rightB ps es with
  | true => exact parts_yes w A E n c m d ps es hA hE h
  | false => exact parts_no w A E n c m d ps es hA hE hn h
end Go.Proofs.Ytfpdbdbgemolgaa
