/- The contract of fleuronref03.row. -/
import Derived.Test.YtfpdbdbgemolgaaRefRing
namespace Go.Proofs.Ytfpdbdbgemolgaa
open Go.RowKit

set_option maxRecDepth 100000 in
set_option maxHeartbeats 4000000 in
theorem refRow_ok (w : World) (B : Nat) (A O : Option Addr) (n c co : Nat) (pts : List P2) (on : List Bool) (hA : Rd w B A n 2 (c2s pts)) (hO : Rd w B O n 1 (cBs on)) (hB : B ≤ w.heap.size) (hn0 : 0 < n) (hn : n ≤ 40000) :
    Calls Try.prog 44 #[.slice A n c, .slice O n co] w fun e w' => ∃ A' k cc, e = .returned (.slice A' k cc) ∧ RdT w' 47 A' k 2 (c2s (rowL (ringL (spz pts on)))) ∧ Below w.heap.size w w' := by
  obtain ⟨i0, hi0, hz0, hz1, hz2⟩ := info_parts info47
  have hsl := spz_length pts on n hA.len2 hO.lenB
  have hr1 := ringTo_len (spz pts on) n
  have hr2 := ringTo_ge (spz pts on) n (by omega)
  have hr3 := ringL_len (spz pts on)
  rw [hsl] at hr3
  rw [← hr3] at hr1 hr2
  clear hr3 hsl
  go_enter Try.func44, Try.ntmps44
  go_wp2_with fail
  refine (refRing_ok w B A O n c co pts on hA hO hB hn0 hn).mono ?_
  rintro e w1 ⟨v, rfl, hown, hb1⟩
  obtain ⟨R, cR, rfl, hR⟩ := Rd.of_own hown
  clear hown
  generalize hrg : ringL (spz pts on) = rg at *
  have Hrg := Lib.hid hrg
  clear hrg
  generalize hNe : rg.length = N at *
  have hlen := Lib.hid hNe
  clear hNe
  have hN0 : 0 < N := by omega
  have hN : N ≤ 80000 := by omega
  obtain ⟨b, o, x0, y0, z0, rfl, hbB, hp0, q1, q2, q3⟩ := hR.at3 hN0
  simp only [Nat.zero_mul, Nat.add_zero] at q1 q2 q3
  have hT : Hid ([(x0, y0)] ++ rowFrom rg N 0 = rowT rg) := by
    show _ = _
    rw [rowT, hp0.out, hlen.out]
    rfl
  go_wp2_with fail
  go_loopw [6, 7] (fun v i wr => ∃ (k : Nat) (td : List P2), td.length ≤ 1 + 8 * k ∧ k ≤ N + 1 ∧ 0 < td.length ∧ i = .int .i64 k ∧ wr.ownsRow w1.heap.size 47 2 v td.length (c2s td) ∧ Below w1.heap.size w1 wr ∧ Hid (td ++ rowFrom rg N k = rowT rg)) (fun _ i _ => N + 1 - (intOf i).toNat)
  case atStart =>
    refine ⟨0, [(x0, y0)], by simp, by omega, by simp, rfl, ?_, (Below.refl _ _).alloc (Nat.le_refl _) _, hT⟩
    exact World.ownsRow_lit w1 #[.int .i64 x0, .int .i64 y0] 1 (Nat.le_refl _) (by simp [maxLen]) rfl
  case round =>
    obtain ⟨k, td, htl, hk, htp, rfl, how, hbl, htd⟩ := hrel
    obtain ⟨A1, c1, rfl, -⟩ := Rd.of_own how
    by_cases hlt : k < N
    · have hRr := hR.below hbl (Nat.le_refl _)
      obtain ⟨b1, o1, xa, ya, za, e1, -, hpa, qa1, qa2, qa3⟩ := hRr.at3 hlt
      simp only [Option.some.injEq, Addr.mk.injEq, and_true] at e1
      obtain ⟨rfl, rfl⟩ := e1
      obtain ⟨j, hj⟩ : ∃ j : Nat, (k + 1) % N = j := ⟨_, rfl⟩
      have hjl : j < N := by rw [← hj]; exact Nat.mod_lt _ (by omega)
      have hjI : ((k : Int) + 1) % (N : Int) = (j : Int) := by rw [← hj]; simp
      have Hj := Lib.hid hj
      clear hj
      obtain ⟨b1, o1, xn, yn, zn, e1, -, hpn, qn1, qn2, qn3⟩ := hRr.at3 hjl
      simp only [Option.some.injEq, Addr.mk.injEq, and_true] at e1
      obtain ⟨rfl, rfl⟩ := e1
      have hszr := hbl.size
      have hbr : b < wr.heap.size := by omega
      cases zn with
      | true =>
        have hnx := Lib.hid (rowFrom_on rg N k hlen.out hlt _ _ hpa.out (by rw [Hj.out]; exact hpn.out) rfl)
        go_wp2_with (at_builtin; refine wpList_append_any _ rfl (.tmp 39) (.tmp 42) 32 rfl w1.heap.size 47 i0 _ 2 16 Try.underlying32 hi0 hz0 hz1 hz2 rfl (by decide) (.slice A1 td.length c1) td.length (c2s td) rfl (((how.alloc _).alloc _).alloc _) (wr.heap.size + 1 + 1 + 1) (some ⟨wr.heap.size + 1 + 1, 0, none⟩) 1 1 [.int .i64 xn, .int .i64 yn] rfl (by exact Rd.newAt _ _ (by simp) #[.int .i64 xn, .int .i64 yn] 47 1 2 rfl) (by simp [Value.oneCell']) (by simp only [maxLen]; omega) (by omega) (by simp; omega) ?_; intro v1 w2 hown1 hg1 _)
        go_roundw
        case rel =>
          refine ⟨k + 1, td ++ [(xn, yn)], by simp; omega, by omega, by simp, by go_num, by simpa [c2s, c2] using hown1, (((hbl.alloc hszr _).alloc (by simp; omega) _).alloc (by simp; omega) _).grown hg1 (by simp; omega) (fun g hg => (how.lt g hg).1), ?_⟩
          show _ = _
          rw [← htd.out, hnx.out]
          simp [at2]
        case measure => simp [intOf]; omega
      | false =>
        obtain ⟨j2, hj2⟩ : ∃ j : Nat, (k + 2) % N = j := ⟨_, rfl⟩
        have hj2l : j2 < N := by rw [← hj2]; exact Nat.mod_lt _ (by omega)
        have hj2I : ((k : Int) + 2) % (N : Int) = (j2 : Int) := by rw [← hj2]; simp
        have Hj2 := Lib.hid hj2
        clear hj2
        obtain ⟨b1, o1, xb, yb, zb, e1, -, hpb, qb1, qb2, qb3⟩ := hRr.at3 hj2l
        simp only [Option.some.injEq, Addr.mk.injEq, and_true] at e1
        obtain ⟨rfl, rfl⟩ := e1
        have hnx := Lib.hid (rowFrom_off rg N k hlen.out hlt _ _ _ hpa.out (by rw [Hj.out]; exact hpn.out) (by rw [Hj2.out]; exact hpb.out) rfl)
        obtain ⟨wo, rfl⟩ : ∃ wo : World, wo = wr := ⟨_, rfl⟩
        go_wp2_with fail
        clear hjI hj2I
        go_loopw [6, 11] (fun v s ws => ∃ q : Nat, 1 ≤ q ∧ q ≤ 9 ∧ s = .int .i64 q ∧ ws.ownsRow w1.heap.size 47 2 v (td.length + (q - 1)) (c2s (td ++ (List.range (q - 1)).map fun s => crv (xa, ya) (xn, yn) (xb, yb) (s + 1))) ∧ Bk ws wo.heap.size 47 #[.int .i64 xa, .int .i64 ya] ∧ Bk ws (wo.heap.size + 1) 83 #[.int .i64 xn, .int .i64 yn, .bool false] ∧ Bk ws (wo.heap.size + 1 + 1) 47 #[.int .i64 xb, .int .i64 yb] ∧ Below w1.heap.size w1 ws ∧ Hid (∀ g, v.ownBlock = some g → g ≠ wo.heap.size ∧ g ≠ wo.heap.size + 1 ∧ g ≠ wo.heap.size + 1 + 1)) (fun _ s _ => 9 - (intOf s).toNat)
        case atStart =>
          refine ⟨1, by omega, by omega, rfl, ?_, ?_, ?_, ?_, ((hbl.alloc hszr _).alloc (by simp; omega) _).alloc (by simp; omega) _, ?_⟩
          · simpa using ((how.alloc _).alloc _).alloc _
          · exact ((Bk.new _ _ _).alloc _).alloc _
          · have h := Bk.new (wo.alloc (.cells #[.int .i64 xa, .int .i64 ya] 47)) 83 #[.int .i64 xn, .int .i64 yn, .bool false]
            rw [World.size_alloc] at h
            exact h.alloc _
          · have h := Bk.new ((wo.alloc (.cells #[.int .i64 xa, .int .i64 ya] 47)).alloc (.cells #[.int .i64 xn, .int .i64 yn, .bool false] 83)) 47 #[.int .i64 xb, .int .i64 yb]
            rwa [World.size_alloc, World.size_alloc] at h
          · intro g hg
            have := (how.lt g hg).2
            omega
        case round =>
          obtain ⟨q, hq1, hq9, rfl, hoq, hba, hbn, hbb, hbq, hnow⟩ := hrel
          obtain ⟨A2, c2', rfl, -⟩ := Rd.of_own hoq
          by_cases hq : q ≤ 8
          · have hszq := hbq.size
            have p0 : wr.cell? ⟨wo.heap.size, 0, none⟩ = some (.int .i64 xa) := hba.cell 0
            have p1 : wr.cell? ⟨wo.heap.size, 1, none⟩ = some (.int .i64 ya) := hba.cell 1
            have n0 : wr.cell? ⟨wo.heap.size + 1, 0, none⟩ = some (.int .i64 xn) := hbn.cell 0
            have n1 : wr.cell? ⟨wo.heap.size + 1, 1, none⟩ = some (.int .i64 yn) := hbn.cell 1
            have m0 : wr.cell? ⟨wo.heap.size + 1 + 1, 0, none⟩ = some (.int .i64 xb) := hbb.cell 0
            have m1 : wr.cell? ⟨wo.heap.size + 1 + 1, 1, none⟩ = some (.int .i64 yb) := hbb.cell 1
            have hz5 : wo.heap.size + 1 + 1 < wr.heap.size := hbb.lt
            have hz6 : wo.heap.size + 1 < wr.heap.size := by omega
            have hz7 : wo.heap.size < wr.heap.size := by omega
            have hN1 : Hid (some wo.heap.size ≠ (Value.slice A2 (td.length + (q - 1)) c2').ownBlock) := fun e => (hnow.out _ e.symm).1 rfl
            have hN2 : Hid (some (wo.heap.size + 1) ≠ (Value.slice A2 (td.length + (q - 1)) c2').ownBlock) := fun e => (hnow.out _ e.symm).2.1 rfl
            have hN3 : Hid (some (wo.heap.size + 1 + 1) ≠ (Value.slice A2 (td.length + (q - 1)) c2').ownBlock) := fun e => (hnow.out _ e.symm).2.2 rfl
            clear qa1 qa2 qa3 qn1 qn2 qn3 qb1 qb2 qb3
            go_wp2_with fail
            go_region_held3 (fun w' => w'.cell? ⟨wo.heap.size, 0, none⟩ = some (.int .i64 xa) ∧ w'.cell? ⟨wo.heap.size, 1, none⟩ = some (.int .i64 ya) ∧ w'.cell? ⟨wo.heap.size + 1, 0, none⟩ = some (.int .i64 xn) ∧ w'.cell? ⟨wo.heap.size + 1, 1, none⟩ = some (.int .i64 yn) ∧ w'.cell? ⟨wo.heap.size + 1 + 1, 0, none⟩ = some (.int .i64 xb) ∧ w'.cell? ⟨wo.heap.size + 1 + 1, 1, none⟩ = some (.int .i64 yb))
              (first
                | go_keep
                | (go_split_ands
                   refine ⟨?_, ?_, ?_, ?_, ?_, ?_⟩
                   · (rw [hg1.cell_far _ (by simp; omega) hN1.out]; assumption)
                   · (rw [hg1.cell_far _ (by simp; omega) hN1.out]; assumption)
                   · (rw [hg1.cell_far _ (by simp; omega) hN2.out]; assumption)
                   · (rw [hg1.cell_far _ (by simp; omega) hN2.out]; assumption)
                   · (rw [hg1.cell_far _ (by simp; omega) hN3.out]; assumption)
                   · (rw [hg1.cell_far _ (by simp; omega) hN3.out]; assumption)))
              (first
                | (go_at_call 52; refine (mix_ok _ q _ _ _ (by omega) (by omega)).mono ?_; rintro e w' ⟨rfl, rfl⟩)
                | (refine step_append_any _ (by rfl) (.tmp 59) (.tmp 79) 32 (by rfl) w1.heap.size 47 i0 _ 2 16 Try.underlying32 hi0 hz0 hz1 hz2 rfl (by decide) (.slice A2 (td.length + (q - 1)) c2') (td.length + (q - 1)) _ (by go_simp) (by exact (hoq.alloc _).drew) (wr.heap.size + 1) (some ⟨wr.heap.size, 0, none⟩) 1 1 [.int .i64 (crv (xa, ya) (xn, yn) (xb, yb) q).1, .int .i64 (crv (xa, ya) (xn, yn) (xb, yb) q).2] (by go_simp) (by exact Rd.drew (Rd.newAt _ _ (by simp) #[.int .i64 (crv (xa, ya) (xn, yn) (xb, yb) q).1, .int .i64 (crv (xa, ya) (xn, yn) (xb, yb) q).2] 47 1 2 rfl)) (by simp [Value.oneCell']) (by simp only [maxLen]; omega) (by omega) (by simp; omega) ?_; intro v1 w2 hown1 hg1 hat1))
            go_wp2_with fail
            go_roundw
            case rel =>
              have hown2 : w2.ownsRow w1.heap.size 47 2 v1 (td.length + (q + 1 - 1)) (c2s (td ++ (List.range (q + 1 - 1)).map fun s => crv (xa, ya) (xn, yn) (xb, yb) (s + 1))) := by
                have e1 : td.length + (q - 1) + 1 = td.length + (q + 1 - 1) := by omega
                have e2 : q + 1 - 1 = (q - 1) + 1 := by omega
                rw [e2, List.range_succ, List.map_append, ← List.append_assoc, c2s_append]
                rw [e1, e2] at hown1
                have e3 : q - 1 + 1 = q := by omega
                simpa [c2s, c2, e3] using hown1
              have hg1' : World.grownBy (wr.alloc (.cells #[.int .i64 (crv (xa, ya) (xn, yn) (xb, yb) q).1, .int .i64 (crv (xa, ya) (xn, yn) (xb, yb) q).2] 47)).drew w2 (Value.slice A2 (td.length + (q - 1)) c2').ownBlock := hg1
              have keep : ∀ (g : Nat) (t : TypeId) (cs : Array Value), Bk wr g t cs → some g ≠ (Value.slice A2 (td.length + (q - 1)) c2').ownBlock → Bk w2 g t cs := fun g t cs h hne => (hg1'.block g (by have := h.lt; simp; omega) hne).trans (h.alloc _).drew
              refine ⟨q + 1, by omega, by omega, by go_num, hown2, keep _ _ _ hba hN1.out, keep _ _ _ hbn hN2.out, keep _ _ _ hbb hN3.out, ((hbq.alloc hszq _).drew).grown hg1 (by simp; omega) (fun g hg => (hoq.lt g hg).1), ?_⟩
              intro g hg
              rcases hat1 with h | h
              · exact hnow.out g (h.symm.trans hg)
              · rw [h] at hg
                simp at hg
                omega
            case measure => simp [intOf]; omega
          · go_wp2_with fail
            go_roundw
            case rel =>
              obtain rfl : q = 9 := by omega
              refine ⟨k + 2, td ++ (List.range 8).map (fun s => crv (xa, ya) (xn, yn) (xb, yb) (s + 1)), by simp; omega, by omega, by simp, by go_num, by simpa using hoq, hbq, ?_⟩
              show _ = _
              rw [← htd.out, hnx.out]
              simp [at2]
            case measure => simp [intOf]; omega
    · have hlt' : td.length - 1 + 1 = td.length := by omega
      have hfin : Hid (td = rowT rg) := by
        have h0 : rowFrom rg N k = [] := by
          have hl := hlen.out
          cases N with
          | zero => rfl
          | succ N => rw [rowFrom, if_neg (by omega)]
        have := htd.out
        rw [h0, List.append_nil] at this
        exact this
      obtain ⟨g, cap, hv, hg, hgl⟩ := how.form htp
      simp only [Value.slice.injEq, true_and] at hv
      obtain ⟨rfl, rfl⟩ := hv
      have hcap : td.length ≤ c1 := by
        rcases how.2 with ⟨h, _⟩ | ⟨g', cap', cur, h, _, _, h1, _⟩
        · cases h
        · simp only [Value.slice.injEq, true_and] at h
          omega
      generalize hN : td.length = M at *
      have HN := Lib.hid hN
      clear hN
      go_wp2_with fail
      go_ret
      refine ⟨_, _, _, rfl, ?_, hb1.trans (hbl.mono hb1.size)⟩
      rw [Hrg.out, rowL, ← hfin.out]
      rcases how.2 with ⟨h, _⟩ | ⟨g', cap', cur, h, _, hh, _, _, _, htake⟩
      · cases h
      · simp only [Value.slice.injEq, Option.some.injEq, Addr.mk.injEq, and_true, true_and] at h
        obtain ⟨rfl, rfl⟩ := h
        refine ⟨by rw [c2s_length, List.length_dropLast, HN.out], fun _ => ⟨g, 0, cur, rfl, hh, fun j u hu => ?_⟩⟩
        have hne : td ≠ [] := by intro h; have := HN.out; rw [h] at this; simp at this; omega
        have h1 : (c2s td)[j]? = some u := by
          rw [← List.dropLast_concat_getLast hne, c2s_append, List.getElem?_append_left (List.getElem?_eq_some_iff.1 hu).1]
          exact hu
        rw [← htake, List.getElem?_take] at h1
        split at h1
        · rw [Nat.zero_add, ← Array.getElem?_toList]
          exact h1
        · cases h1
end Go.Proofs.Ytfpdbdbgemolgaa
