/- The contract of fleuronref03.Contours. -/
import Derived.Test.YtfpdbdbgemolgaaTold2
namespace Go.Proofs.Ytfpdbdbgemolgaa
open Go.RowKit

theorem rows3_kept {w w' : World} {hs : List Value} {rows : List (List P3)} (h : RowsIn3 w hs rows) (hk : ∀ A k r, RdT w 40 A k 3 (c3s r) → RdT w' 40 A k 3 (c3s r)) : RowsIn3 w' hs rows :=
  ⟨h.1, fun i r hi => by obtain ⟨A, k, c, h1, h2, h3, h4⟩ := h.2 i r hi; exact ⟨A, k, c, h1, h2, h3, hk _ _ _ h4⟩⟩
theorem rows3_snoc {w : World} {hs : List Value} {rows : List (List P3)} (h : RowsIn3 w hs rows) {A : Option Addr} {k c : Nat} {r : List P3} (hc : k ≤ c) (hc' : c ≤ 9223372036854775807) (hr : RdT w 40 A k 3 (c3s r)) : RowsIn3 w (hs ++ [.slice A k c]) (rows ++ [r]) := by
  refine ⟨by simp [h.1], fun i r' hi => ?_⟩
  by_cases hlt : i < rows.length
  · rw [List.getElem?_append_left hlt] at hi
    obtain ⟨A', k', c', h1, h2⟩ := h.2 i r' hi
    exact ⟨A', k', c', by rw [List.getElem?_append_left (by rw [h.1]; exact hlt)]; exact h1, h2⟩
  · have hi2 : i = rows.length := by
      have := (List.getElem?_eq_some_iff.1 hi).1
      simp at this
      omega
    subst hi2
    simp at hi
    subst hi
    exact ⟨A, k, c, by rw [← h.1]; simp, hc, hc', hr⟩

set_option maxRecDepth 100000 in
set_option maxHeartbeats 4000000 in
theorem refContours_ok (w : World) (B : Nat) (A E : Option Addr) (n c m d : Nat) (ps : List P3) (es : List Int) (hA : Rd w B A n 3 (c3s ps)) (hE : Rd w B E m 1 (cIs es)) (hB : B ≤ w.heap.size) (hc : n ≤ c) (hc' : c ≤ 9223372036854775807) (hn : n ≤ 100000) (hm : m ≤ 100000) :
    Calls Try.prog 27 #[.agg #[.slice A n c, .slice E m d]] w fun e w' => ∃ v hs, e = .returned v ∧ w'.ownsRow (w.heap.size + 1) 22 1 v hs.length hs ∧ RowsIn3 w' hs (contL ps (pcsF n 0 0 es)) ∧ Below w.heap.size w w' := by
  obtain ⟨i0, hi0, hz0, hz1, hz2⟩ := info_parts info22
  obtain ⟨j0, hj0, hy0, hy1, hy2⟩ := info_parts info40
  have hpl := pcsF_length n es 0 0
  have hel := hE.lenI
  rw [hel] at hpl
  clear hel
  go_enter Try.func27, Try.ntmps27
  go_wp2_with fail
  have hO1 : Bk ((w.alloc (.cells #[.slice A n c, .slice E m d] 25)).alloc (.cells #[] 22)) w.heap.size 25 #[.slice A n c, .slice E m d] := (Bk.new _ _ _).alloc _
  have hP : ((w.alloc (.cells #[.slice A n c, .slice E m d] 25)).alloc (.cells #[] 22)).ownsRow (w.heap.size + 1) 22 1 (.slice (some ⟨w.heap.size + 1, 0, none⟩) 0 0) 0 [] := by
    have h := World.ownsRow_made (size := 1) (e := 22) (base := w.heap.size + 1) (w.alloc (.cells #[.slice A n c, .slice E m d] 25)) #[] 0 (by simp) (by simp [maxLen]) rfl
    simpa using h
  refine (cuts_ok _ B E n m d es ((hE.alloc hB _).alloc (by simp; omega) _) (by simp; omega) (by omega) (by omega)).mono ?_
  rintro e w1 ⟨v, rfl, hcut, hb1⟩
  have hP1 := own_below hP hb1
  have hO2 := hO1.below hb1
  have hbw1 : Below w.heap.size w w1 := (((Below.refl _ _).alloc (Nat.le_refl _) _).alloc (by simp) _).trans (hb1.mono (by simp; omega))
  have hpm := Lib.hid (pcsF_mem n es 0 0)
  generalize hpc : pcsF n 0 0 es = pcs at *
  have Hpc := Lib.hid hpc
  clear hpc
  simp only [World.size_alloc] at hcut
  generalize hL : pcs.length = L at *
  have HL := Lib.hid hL
  clear hL
  obtain ⟨Ac, cc, rfl, -⟩ := Rd.of_own hcut
  clear hP hb1 hO1
  go_wp2_with fail
  go_loopw [3, 5] (fun v i wr => ∃ (k : Nat) (hs : List Value), k ≤ L ∧ i = .int .i64 k ∧ wr.ownsRow (w.heap.size + 1) 22 1 v k hs ∧ RowsIn3 wr hs (contL ps (pcs.take k)) ∧ wr.ownsRow (w.heap.size + 1 + 1) 64 2 (.slice Ac L cc) L (c2s (pcs.map cutP)) ∧ Bk wr w.heap.size 25 #[.slice A n c, .slice E m d] ∧ Below w.heap.size w wr) (fun _ i _ => L - (intOf i).toNat)
  case atStart => exact ⟨0, [], by omega, rfl, hP1, ⟨rfl, fun i r h => by simp [contL] at h⟩, hcut, hO2, hbw1⟩
  case round =>
    obtain ⟨k, hs, hk, rfl, how, hrows, hcr, hO, hbl⟩ := hrel
    obtain ⟨A1, c1, rfl, -⟩ := Rd.of_own how
    have hszr := hO.lt
    have q0 : wr.cell? ⟨w.heap.size, 0, none⟩ = some (.slice A n c) := hO.cell 0
    by_cases hlt : k < L
    · obtain ⟨Ac', cc', hv2, hrd⟩ := Rd.of_own hcr
      simp only [Value.slice.injEq, true_and] at hv2
      obtain ⟨rfl, rfl⟩ := hv2
      obtain ⟨b, o, xf, ye, rfl, hbB, hp, qa1, qa2⟩ := hrd.at2 hlt
      have hpk : ∃ p, pcs[k]? = some p ∧ cutP p = (xf, ye) := by
        have := hp.out
        simp only [List.getElem?_map, Option.map_eq_some_iff] at this
        exact this
      obtain ⟨⟨idx, f, e⟩, hpk1, hpk2⟩ := hpk
      simp only [cutP, Prod.mk.injEq] at hpk2
      obtain ⟨rfl, rfl⟩ := hpk2
      have hb3 := hpm.out _ (List.mem_of_getElem? hpk1)
      dsimp only at hb3
      obtain ⟨-, hfe, hen⟩ := hb3
      have hsn : Hid (contL ps (pcs.take (k + 1)) = contL ps (pcs.take k) ++ [seg ps f e]) := by
        obtain ⟨h1, h2⟩ := List.getElem?_eq_some_iff.1 hpk1
        show _ = _
        rw [List.take_succ_eq_append_getElem h1, h2]
        simp [contL]
      have hAr := hA.below hbl hB
      obtain ⟨ba, oa, x0, y0, z0, rfl, hbaB, -, -, -, -⟩ := hA.at3 (k := 0) (by omega)
      have hAs := hAr.seg3 (f := f) hen
      clear hpk1 hp hAr
      have z1 : (0 : Int) ≤ (f : Int) := by omega
      have z2 : (f : Int) ≤ (e : Int) + 1 := by omega
      have z3 : (e : Int) + 1 ≤ (c : Int) := by omega
      have z5 : ¬ (c = f) := by omega
      have z7 : f ≤ e + 1 := by omega
      have z8 : e + 1 ≤ c := by omega
      have z9 : (k : Int) < (L : Int) := by omega
      have z10 : (0 : Int) ≤ (k : Int) := by omega
      have z11 : IntKind.i64.wrap ((e : Int) + 1) = (e : Int) + 1 := IntWalk.i64_in _ (by omega)
      have hneo : Hid (some w.heap.size ≠ (Value.slice A1 k c1).ownBlock) := fun e' => by have := (how.lt _ e'.symm).1; omega
      have hnec : Hid (some b ≠ (Value.slice A1 k c1).ownBlock) := fun e' => by
        rcases own_ne hcr how (by decide) with h | h
        · simp [Value.ownBlock] at h
        · exact h e'
      have hblt : b < wr.heap.size := hbB
      go_wp2_with fail
      go_region_held3 (fun w' => w'.cell? ⟨w.heap.size, 0, none⟩ = some (.slice (some ⟨ba, oa, none⟩) n c) ∧ w'.cell? ⟨b, o + k * 2, none⟩ = some (.int .i64 (f : Int)) ∧ w'.cell? ⟨b, o + k * 2 + 1, none⟩ = some (.int .i64 (e : Int)))
        (first
          | go_keep
          | (go_split_ands
             refine ⟨?_, ?_, ?_⟩
             · (rw [hg2.cell_far _ (by simp; omega) hneo.out]; assumption)
             · (rw [hg2.cell_far _ (by simp; omega) hnec.out]; assumption)
             · (rw [hg2.cell_far _ (by simp; omega) hnec.out]; assumption))
          | (go_split_ands
             refine ⟨?_, ?_, ?_⟩
             · (rw [hg1.cell_far _ (by simp; omega) (by simp [Value.ownBlock]; omega)]; assumption)
             · (rw [hg1.cell_far _ (by simp; omega) (by simp [Value.ownBlock]; omega)]; assumption)
             · (rw [hg1.cell_far _ (by simp; omega) (by simp [Value.ownBlock]; omega)]; assumption)))
        (first
          | (refine step_append_any _ (by rfl) (.tmp 22) (.tmp 36) 22 (by rfl) wr.heap.size 40 j0 _ 3 24 Try.underlying22 hj0 hy0 hy1 hy2 rfl (by decide) (.slice (some ⟨wr.heap.size, 0, none⟩) 0 0) 0 [] (by go_simp) (by exact (World.ownsRow_made wr #[] 0 (Nat.le_refl _) (by simp [maxLen]) rfl).drew) B (some ⟨ba, oa + f * 3, none⟩) (e + 1 - f) (c - f) (c3s (seg ps f e)) (by go_simp) (by exact (hAs.alloc (by omega) _).drew) (one3 _) (by simp only [maxLen]; omega) (by omega) (by simp) ?_; intro v1 w2 hown1 hg1 _; simp only [Nat.zero_add, List.nil_append] at hown1; (have hb12 : Below wr.heap.size wr w2 := (((Below.refl _ wr).alloc (Nat.le_refl _) _).drew).grown hg1 (by simp) (fun g hg => by cases hg; exact Nat.le_refl _)); (have hs2 : wr.heap.size + 1 ≤ w2.heap.size := by have := hg1.size; simpa using this); have how2 := own_below how hb12; obtain ⟨A2, c2, rfl, -⟩ := Rd.of_own hown1)
          | (refine step_append_any _ (by rfl) (.tmp 21) (.tmp 38) 48 (by rfl) (w.heap.size + 1) 22 i0 _ 1 24 Try.underlying48 hi0 hz0 hz1 hz2 rfl (by decide) (.slice A1 k c1) k hs (by go_simp) (by exact how2.alloc _) (w2.heap.size + 1) (some ⟨w2.heap.size, 0, none⟩) 1 1 [.slice A2 (e + 1 - f) c2] (by go_simp) (by exact Rd.new w2 #[.slice A2 (e + 1 - f) c2] 22 1 1 rfl) (by simp [Value.oneCell']) (by simp only [maxLen]; omega) (by omega) (by simp; omega) ?_; intro v3 w3 hown3 hg2 _))
      all_goals
        have how3 : (w2.alloc (.cells #[.slice A2 (e + 1 - f) c2] 22)).ownsRow (w.heap.size + 1) 22 1 (.slice A1 k c1) k hs := how2.alloc _
        have hcr2 := (own_below hcr hb12).alloc (.cells #[.slice A2 (e + 1 - f) c2] 22)
        have hcr3 := hcr2.kept hg2 (own_ne hcr2 how3 (by decide))
        have hO2 := (hO.below hb12).alloc (.cells #[.slice A2 (e + 1 - f) c2] 22)
        have hO3 : Bk w3 w.heap.size 25 #[.slice (some ⟨ba, oa, none⟩) n c, .slice E m d] := (hg2.block _ (by simp; omega) hneo.out).trans hO2
        have hbl3 : Below w.heap.size w w3 := ((hbl.trans (hb12.mono (by omega))).alloc (by omega) _).grown hg2 (by simp; omega) (fun g hg => by have := (how.lt g hg).1; omega)
        have kp : ∀ A k r, RdT w2 40 A k 3 (c3s r) → RdT w3 40 A k 3 (c3s r) := fun A k r h => RdT.grown (h.below ((Below.refl _ _).alloc (Nat.le_refl _) _)) hg2 (fun g hg' => by
          obtain ⟨cur, hk⟩ := own_bk how3 g hg'
          exact ⟨cur, 22, hk, by decide⟩)
        have hcap2 := own_caps hown1
        have hrow3 := rows3_snoc (c := c2) (rows3_kept hrows (fun A k r h => kp A k r (h.below hb12))) hcap2.1 hcap2.2 (kp _ _ _ (own_rdT hown1))
        have Hrow3 := Lib.hid hrow3
        clear kp hrow3 hg2 how3 hcr2 hg1 z11
        go_wp2_with fail
        go_roundw
        case rel =>
          refine ⟨k + 1, hs ++ [.slice A2 (e + 1 - f) c2], by omega, by go_num, hown3, ?_, hcr3, hO3, hbl3⟩
          rw [hsn.out]
          exact Hrow3.out
        case measure => simp [intOf]; omega
    · have hkL : k = L := by omega
      have hfin : Hid (contL ps (pcs.take k) = contL ps pcs) := by
        show _ = _
        rw [List.take_of_length_le (by rw [HL.out]; omega)]
      clear hkL
      go_wp2_with fail
      go_ret
      have hl := how.1
      simp only [Nat.mul_one] at hl
      refine ⟨.slice A1 k c1, hs, rfl, by rw [hl]; exact how, ?_, hbl⟩
      rw [Hpc.out, ← hfin.out]
      exact hrows
end Go.Proofs.Ytfpdbdbgemolgaa
