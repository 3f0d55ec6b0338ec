/- The contracts of fleuronref03.Lines and SameRows. -/
import Derived.Test.YtfpdbdbgemolgaaRefRow
namespace Go.Proofs.Ytfpdbdbgemolgaa
open Go.RowKit

theorem pcsF_mem (len : Nat) (es : List Int) : ∀ (k f : Nat) (p : Nat × Nat × Nat), p ∈ pcsF len k f es → f ≤ p.2.1 ∧ p.2.1 ≤ p.2.2 ∧ p.2.2 < len := by
  induction es with
  | nil => intro k f p h; simp [pcsF] at h
  | cons e es ih =>
    intro k f p h
    rw [pcsF] at h
    split at h
    · rename_i hc
      rcases List.mem_cons.1 h with rfl | h
      · dsimp only; omega
      · have := ih _ _ _ h; omega
    · simp at h
theorem c2s_take (ps : List P2) (k : Nat) : c2s (ps.take k) = (c2s ps).take (k * 2) := by
  induction ps generalizing k with
  | nil => simp [c2s]
  | cons p ps ih =>
    cases k with
    | zero => simp [c2s]
    | succ k =>
      have e : ∀ q ps, c2s (q :: ps) = c2 q ++ c2s ps := fun _ _ => rfl
      rw [List.take_succ_cons, e, e, ih, show (k + 1) * 2 = k * 2 + 2 by omega]
      simp [c2]
theorem c2s_drop (ps : List P2) (k : Nat) : c2s (ps.drop k) = (c2s ps).drop (k * 2) := by
  induction ps generalizing k with
  | nil => simp [c2s]
  | cons p ps ih =>
    cases k with
    | zero => simp
    | succ k =>
      have e : ∀ q ps, c2s (q :: ps) = c2 q ++ c2s ps := fun _ _ => rfl
      rw [List.drop_succ_cons, e, ih, show (k + 1) * 2 = k * 2 + 2 by omega]
      simp [c2]
theorem Rd.seg2 {w : World} {B b o n : Nat} {ps : List P2} (h : Rd w B (some ⟨b, o, none⟩) n 2 (c2s ps)) {f e : Nat} (he : e < n) :
    Rd w B (some ⟨b, o + f * 2, none⟩) (e + 1 - f) 2 (c2s (seg ps f e)) := by
  refine ⟨by rw [c2s_length, seg_length _ _ _ (by rw [h.len2]; exact he)], fun hn => ?_⟩
  obtain ⟨b', o', e1, hb, hc⟩ := h.2 (by omega)
  simp only [Option.some.injEq, Addr.mk.injEq, and_true] at e1
  obtain ⟨rfl, rfl⟩ := e1
  refine ⟨b, o + f * 2, rfl, hb, fun j u hu => ?_⟩
  rw [seg, c2s_take, c2s_drop, List.getElem?_take] at hu
  split at hu
  · rw [List.getElem?_drop] at hu
    rw [Nat.add_assoc]
    exact hc _ _ hu
  · cases hu
theorem Rd.segB {w : World} {B b o n : Nat} {ps : List Bool} (h : Rd w B (some ⟨b, o, none⟩) n 1 (cBs ps)) {f e : Nat} (he : e < n) :
    Rd w B (some ⟨b, o + f, none⟩) (e + 1 - f) 1 (cBs (seg ps f e)) := by
  refine ⟨by simp [cBs, seg_length ps f e (by rw [h.lenB]; exact he)], fun hn => ?_⟩
  obtain ⟨b', o', e1, hb, hc⟩ := h.2 (by omega)
  simp only [Option.some.injEq, Addr.mk.injEq, and_true] at e1
  obtain ⟨rfl, rfl⟩ := e1
  refine ⟨b, o + f, rfl, hb, fun j u hu => ?_⟩
  rw [seg, cBs, List.map_take, List.map_drop, List.getElem?_take] at hu
  split at hu
  · rw [List.getElem?_drop] at hu
    rw [Nat.add_assoc]
    exact hc _ _ hu
  · cases hu
theorem spz_seg (pts : List P2) (on : List Bool) (f e : Nat) : spz (seg pts f e) (seg on f e) = seg (spz pts on) f e := by
  simp [spz, seg, List.take_zipWith, List.drop_zipWith]

theorem rowsIn_kept {w w' : World} {hs : List Value} {rows : List (List P2)} (h : RowsIn2 w hs rows) (hk : ∀ A k r, RdT w 47 A k 2 (c2s r) → RdT w' 47 A k 2 (c2s r)) : RowsIn2 w' hs rows :=
  ⟨h.1, fun i r hi => by obtain ⟨A, k, c, h1, h2⟩ := h.2 i r hi; exact ⟨A, k, c, h1, hk _ _ _ h2⟩⟩
theorem rowsIn_snoc {w : World} {hs : List Value} {rows : List (List P2)} (h : RowsIn2 w hs rows) {A : Option Addr} {k c : Nat} {r : List P2} (hr : RdT w 47 A k 2 (c2s r)) : RowsIn2 w (hs ++ [.slice A k c]) (rows ++ [r]) := by
  refine ⟨by simp [h.1], fun i r' hi => ?_⟩
  by_cases hlt : i < rows.length
  · rw [List.getElem?_append_left hlt] at hi
    obtain ⟨A', k', c', h1, h2⟩ := h.2 i r' hi
    exact ⟨A', k', c', by rw [List.getElem?_append_left (by rw [h.1]; exact hlt)]; exact h1, h2⟩
  · have hi2 : i = rows.length := by
      have := (List.getElem?_eq_some_iff.1 hi).1
      simp at this
      omega
    subst hi2
    simp at hi
    subst hi
    exact ⟨A, k, c, by rw [← h.1]; simp, hr⟩

set_option maxRecDepth 100000 in
set_option maxHeartbeats 4000000 in
theorem refLines_ok (w : World) (B : Nat) (A O E : Option Addr) (n c co m d : Nat) (pts : List P2) (on : List Bool) (es : List Int) (hA : Rd w B A n 2 (c2s pts)) (hO : Rd w B O n 1 (cBs on)) (hE : Rd w B E m 1 (cIs es)) (hB : B ≤ w.heap.size)
    (hn : n ≤ 40000) (hm : m ≤ 100000) (hc : n ≤ c) (hco : n ≤ co) (hc' : c ≤ 9223372036854775807) (hco' : co ≤ 9223372036854775807) :
    Calls Try.prog 21 #[.slice A n c, .slice O n co, .slice E m d] w fun e w' => ∃ v hs, e = .returned v ∧ w'.ownsRow w.heap.size 32 1 v hs.length hs ∧ RowsIn2 w' hs (linesL (spz pts on) (pcsF n 0 0 es)) ∧ Below w.heap.size w w' := by
  obtain ⟨i0, hi0, hz0, hz1, hz2⟩ := info_parts info32
  have hl1 := Lib.hid hA.len2
  have hl2 := Lib.hid hO.lenB
  have hP : (w.alloc (.cells #[] 32)).ownsRow w.heap.size 32 1 (.slice (some ⟨w.heap.size, 0, none⟩) 0 0) 0 [] := World.ownsRow_made w #[] 0 (Nat.le_refl _) (by simp [maxLen]) rfl
  have hpl := pcsF_length n es 0 0
  have hel := hE.lenI
  rw [hel] at hpl
  clear hel
  go_enter Try.func21, Try.ntmps21
  go_wp2_with fail
  refine (cuts_ok _ B E n m d es (hE.alloc hB _) (by simp; omega) (by omega) (by omega)).mono ?_
  rintro e w1 ⟨v, rfl, hcut, hb1⟩
  have hP1 := own_below hP hb1
  have hbw1 : Below w.heap.size w w1 := ((Below.refl _ _).alloc (Nat.le_refl _) _).trans (hb1.mono (by simp))
  have hpm := Lib.hid (pcsF_mem n es 0 0)
  generalize hpc : pcsF n 0 0 es = pcs at *
  have Hpc := Lib.hid hpc
  clear hpc
  simp only [World.size_alloc] at hcut
  generalize hL : pcs.length = L at *
  have HL := Lib.hid hL
  clear hL
  obtain ⟨Ac, cc, rfl, -⟩ := Rd.of_own hcut
  clear hP hb1
  go_wp2_with fail
  go_loopw [7, 9] (fun v i wr => ∃ (k : Nat) (hs : List Value), k ≤ L ∧ i = .int .i64 k ∧ wr.ownsRow w.heap.size 32 1 v k hs ∧ RowsIn2 wr hs (linesL (spz pts on) (pcs.take k)) ∧ wr.ownsRow (w.heap.size + 1) 64 2 (.slice Ac L cc) L (c2s (pcs.map cutP)) ∧ Below w.heap.size w wr) (fun _ i _ => L - (intOf i).toNat)
  case atStart => exact ⟨0, [], by omega, rfl, hP1, ⟨rfl, fun i r h => by simp [linesL] at h⟩, hcut, hbw1⟩
  case round =>
    obtain ⟨k, hs, hk, rfl, how, hrows, hcr, hbl⟩ := hrel
    obtain ⟨A1, c1, rfl, -⟩ := Rd.of_own how
    have hszr := hbl.size
    by_cases hlt : k < L
    · obtain ⟨Ac', cc', hv2, hrd⟩ := Rd.of_own hcr
      simp only [Value.slice.injEq, true_and] at hv2
      obtain ⟨rfl, rfl⟩ := hv2
      obtain ⟨b, o, xf, ye, rfl, hbB, hp, qa1, qa2⟩ := hrd.at2 hlt
      have hpk : ∃ p, pcs[k]? = some p ∧ cutP p = (xf, ye) := by
        have := hp.out
        simp only [List.getElem?_map, Option.map_eq_some_iff] at this
        exact this
      obtain ⟨⟨idx, f, e⟩, hpk1, hpk2⟩ := hpk
      simp only [cutP, Prod.mk.injEq] at hpk2
      obtain ⟨rfl, rfl⟩ := hpk2
      have hb3 := hpm.out _ (List.mem_of_getElem? hpk1)
      dsimp only at hb3
      obtain ⟨-, hfe, hen⟩ := hb3
      have hsn : Hid (linesL (spz pts on) (pcs.take (k + 1)) = linesL (spz pts on) (pcs.take k) ++ [rowL (ringL (seg (spz pts on) f e))]) := by
        obtain ⟨h1, h2⟩ := List.getElem?_eq_some_iff.1 hpk1
        show _ = _
        rw [List.take_succ_eq_append_getElem h1, h2]
        simp [linesL]
      have hAr := hA.below hbl hB
      have hOr := hO.below hbl hB
      obtain ⟨ba, oa, x0, y0, rfl, hbaB, -, -, -⟩ := hA.at2 (k := 0) (by omega)
      obtain ⟨bo, oo, z0, rfl, hboB, -, -⟩ := hO.atB (k := 0) (by omega)
      have hAs := hAr.seg2 (f := f) hen
      have hOs := hOr.segB (f := f) hen
      clear hpk1 hp hAr hOr
      have z1 : (0 : Int) ≤ (f : Int) := by omega
      have z2 : (f : Int) ≤ (e : Int) + 1 := by omega
      have z3 : (e : Int) + 1 ≤ (c : Int) := by omega
      have z4 : (e : Int) + 1 ≤ (co : Int) := by omega
      have z5 : ¬ (c = f) := by omega
      have z6 : ¬ (co = f) := by omega
      have z7 : f ≤ e + 1 := by omega
      have z8 : e + 1 ≤ c := by omega
      have z9 : e + 1 ≤ co := by omega
      go_wp2_with fail
      go_region_law (first
        | (go_simp; go_at_call 44; refine (refRow_ok _ B _ _ _ _ _ (seg pts f e) (seg on f e) hAs.drew hOs.drew (by simp; omega) (by omega) (by omega)).mono ?_; rintro er w2 ⟨A2, k2, cc2, rfl, hr2, hb2⟩)
        | (refine step_append_any _ (by rfl) (.tmp 40) (.tmp 50) 35 (by rfl) w.heap.size 32 i0 _ 1 24 Try.underlying35 hi0 hz0 hz1 hz2 rfl (by decide) (.slice A1 k c1) k hs (by go_simp) (by exact (own_below how.drew hb2).alloc _) (w2.heap.size + 1) (some ⟨w2.heap.size, 0, none⟩) 1 1 [.slice A2 k2 cc2] (by go_simp) (by exact Rd.new w2 #[.slice A2 k2 cc2] 32 1 1 rfl) (by simp [Value.oneCell']) (by simp only [maxLen]; omega) (by omega) (by have := hb2.size; simp at this; simp; omega) ?_; intro v3 w3 hown3 hg3 _))
      all_goals
        have hb2s : wr.heap.size ≤ w2.heap.size := hb2.size
        have hb2' : Below wr.heap.size wr w2 := ⟨hb2.os, hb2.tape, hb2.output, hb2.size, hb2.block⟩
        have how2 : (w2.alloc (.cells #[.slice A2 k2 cc2] 32)).ownsRow w.heap.size 32 1 (.slice A1 k c1) k hs := (own_below how hb2').alloc _
        have hcr2 := (own_below hcr hb2').alloc (.cells #[.slice A2 k2 cc2] 32)
        have hcr3 := hcr2.kept hg3 (own_ne hcr2 how2 (by decide))
        have hbl3 : Below w.heap.size w w3 := ((hbl.trans (hb2'.mono hszr)).alloc (by omega) _).grown hg3 (by simp; omega) (fun g hg => (how.lt g hg).1)
        have kp : ∀ A k r, RdT w2 47 A k 2 (c2s r) → RdT w3 47 A k 2 (c2s r) := fun A k r h => RdT.grown (h.below ((Below.refl _ _).alloc (Nat.le_refl _) _)) hg3 (fun g hg' => by
          obtain ⟨cur, hk⟩ := own_bk how2 g hg'
          exact ⟨cur, 32, hk, by decide⟩)
        have hrow3 := rowsIn_snoc (c := cc2) (rowsIn_kept hrows (fun A k r h => kp A k r (h.below hb2'))) (kp _ _ _ hr2)
        have Hrow3 := Lib.hid hrow3
        clear kp hrow3 hg3 how2 hcr2
        go_wp2_with fail
        go_roundw
        case rel =>
          refine ⟨k + 1, hs ++ [.slice A2 k2 cc2], by omega, by go_num, hown3, ?_, hcr3, hbl3⟩
          rw [hsn.out, ← spz_seg]
          exact Hrow3.out
        case measure => simp [intOf]; omega
    · have hkL : k = L := by omega
      have hfin : Hid (linesL (spz pts on) (pcs.take k) = linesL (spz pts on) pcs) := by
        show _ = _
        rw [List.take_of_length_le (by rw [HL.out]; omega)]
      clear hkL
      go_wp2_with fail
      go_ret
      have hl := how.1
      simp only [Nat.mul_one] at hl
      refine ⟨.slice A1 k c1, hs, rfl, by rw [hl]; exact how, ?_, hbl⟩
      rw [Hpc.out, ← hfin.out]
      exact hrows

set_option maxHeartbeats 1000000 in
theorem refLines_no (w : World) (A O E : Option Addr) (n c p co m d : Nat) (h : p ≠ n) :
    Calls Try.prog 21 #[.slice A n c, .slice O p co, .slice E m d] w fun e w' => ∃ v, e = .returned v ∧ w'.ownsRow w.heap.size 32 1 v 0 [] ∧ Below w.heap.size w w' := by
  have hP : (w.alloc (.cells #[] 32)).ownsRow w.heap.size 32 1 (.slice (some ⟨w.heap.size, 0, none⟩) 0 0) 0 [] := World.ownsRow_made w #[] 0 (Nat.le_refl _) (by simp [maxLen]) rfl
  have hne : ((p : Int) != (n : Int)) = true := by rw [bne_iff_ne]; omega
  have hne' : ((p : Int) == (n : Int)) = false := by rw [beq_eq_false_iff_ne]; omega
  go_enter Try.func21, Try.ntmps21
  go_wp2_with fail
  go_ret
  exact ⟨_, rfl, hP, (Below.refl _ _).alloc (Nat.le_refl _) _⟩

set_option maxHeartbeats 1000000 in
theorem lines_no (w : World) (A O E : Option Addr) (n c p co m d : Nat) (h : p ≠ n) :
    Calls Try.prog 20 #[.slice A n c, .slice O p co, .slice E m d] w fun e w' => e = .returned (.slice none 0 0) ∧ Below w.heap.size w w' := by
  have hne : ((p : Int) != (n : Int)) = true := by rw [bne_iff_ne]; omega
  have hne' : ((p : Int) == (n : Int)) = false := by rw [beq_eq_false_iff_ne]; omega
  go_enter Try.func20, Try.ntmps20
  go_wp2_with fail
  go_ret
  exact ⟨rfl, Below.refl _ _⟩

set_option maxHeartbeats 1000000 in
theorem sameRows_eq (w : World) (A A' : Option Addr) (n c d : Nat) (hs hs' : List Value) (rows : List (List P2)) (hA : Rd w w.heap.size A n 1 hs) (hA' : Rd w w.heap.size A' n 1 hs') (hr : RowsIn2 w hs rows) (hr' : RowsIn2 w hs' rows) (hn : n ≤ 9223372036854775807) (hk : ∀ r ∈ rows, r.length ≤ 9223372036854775807) :
    Calls Try.prog 19 #[.slice A n c, .slice A' n d] w fun e w' => e = .returned (.bool true) ∧ ∃ k, w' = w.drewN k := by
  have hl : hs.length = n := by have := hA.1; omega
  have HL := Lib.hid hl
  have Hk := Lib.hid hk
  clear hl hk
  go_enter Try.func19, Try.ntmps19
  go_wp2
  go_loopw [5] (fun i wr => ∃ k : Nat, k ≤ n ∧ i = .int .i64 k ∧ Hid (∃ m, wr = w.drewN m)) (fun i _ => n - (intOf i).toNat)
  case atStart => exact ⟨0, by omega, rfl, 0, rfl⟩
  case round =>
    obtain ⟨k, hk, rfl, hw⟩ := hrel
    by_cases hlt : k < n
    · obtain ⟨r, hrk⟩ : ∃ r, rows[k]? = some r := ⟨_, List.getElem?_eq_getElem (by rw [← hr.1, HL.out]; exact hlt)⟩
      obtain ⟨P, kp, cp, h1, h2⟩ := hr.2 k r hrk
      obtain ⟨P', kp', cp', h1', h2'⟩ := hr'.2 k r hrk
      have hkk : kp' = kp := by rw [← h2.rd.len2, ← h2'.rd.len2]
      subst hkk
      have hkl : kp' ≤ 9223372036854775807 := by
        have := Hk.out r (List.mem_of_getElem? hrk)
        rw [h2.rd.len2] at this
        exact this
      obtain ⟨b, o, rfl, -, hc⟩ := hA.2 (by omega)
      obtain ⟨b', o', rfl, -, hc'⟩ := hA'.2 (by omega)
      have q1 : wr.cell? ⟨b, o + k, none⟩ = some (.slice P kp' cp) := by obtain ⟨m, rfl⟩ := hw.out; exact hc k _ h1
      have q2 : wr.cell? ⟨b', o' + k, none⟩ = some (.slice P' kp' cp') := by obtain ⟨m, rfl⟩ := hw.out; exact hc' k _ h1'
      have h3 : Rd wr w.heap.size P kp' 2 (c2s r) := by obtain ⟨m, rfl⟩ := hw.out; exact h2.rd
      have h3' : Rd wr w.heap.size P' kp' 2 (c2s r) := by obtain ⟨m, rfl⟩ := hw.out; exact h2'.rd
      clear hrk h1 h1' hc hc'
      have zk : (k : Int) < (n : Int) := by omega
      go_wp2
      go_quiet ((go_at_call 32; exact Calls.quiet_of (samePts_eq _ w.heap.size P P' kp' cp cp' r (h3.drewN _) (h3'.drewN _) hkl)))
      go_wp2
      go_roundw
      case rel => exact ⟨k + 1, by omega, by go_num, by obtain ⟨m, rfl⟩ := hw.out; exact ⟨m + _, by rw [World.drewN_drewN]⟩⟩
      case measure => simp [intOf]; omega
    · go_wp2
      go_ret
      exact ⟨rfl, hw.out⟩
end Go.Proofs.Ytfpdbdbgemolgaa
