/- The contract of fleuronref03.Reversed. -/
import Derived.Test.YtfpdbdbgemolgaaCopied
import Derived.Test.YtfpdbdbgemolgaaCuts
import Derived.Test.YtfpdbdbgemolgaaReversed
namespace Go.Proofs.Ytfpdbdbgemolgaa
open Go.RowKit

/-- qs with its places behind f, below k, out of ps -/
def rr (ps qs : List P3) (f e k : Nat) : List P3 := (List.range qs.length).map fun t => if f < t ∧ t < k then ps.getD (f + e + 1 - t) (0, 0, false) else qs.getD t (0, 0, false)
theorem rr_length (ps qs : List P3) (f e k : Nat) : (rr ps qs f e k).length = qs.length := by simp [rr]
theorem rr_first (ps qs : List P3) (f e : Nat) : rr ps qs f e (f + 1) = qs := by
  apply List.ext_getElem?
  intro t
  by_cases ht : t < qs.length
  · simp only [rr, List.getElem?_map, List.getElem?_range ht, Option.map_some]
    rw [if_neg (by omega)]
    simp [ht]
  · rw [List.getElem?_eq_none (by rw [rr_length]; omega), List.getElem?_eq_none (by omega)]
theorem rr_succ (ps qs : List P3) (f e k : Nat) (p : P3) (hk : f < k) (hp : ps[f + e + 1 - k]? = some p) : (rr ps qs f e k).set k p = rr ps qs f e (k + 1) := by
  apply List.ext_getElem?
  intro t
  by_cases ht : t < qs.length
  · rw [List.getElem?_set]
    simp only [rr_length]
    by_cases h1 : k = t
    · subst h1
      rw [if_pos rfl, if_pos ht]
      simp only [rr, List.getElem?_map, List.getElem?_range ht, Option.map_some]
      rw [if_pos (by omega), List.getD_eq_getElem?_getD, hp]
      rfl
    · rw [if_neg h1]
      simp only [rr, List.getElem?_map, List.getElem?_range ht, Option.map_some]
      by_cases h2 : f < t ∧ t < k
      · rw [if_pos h2, if_pos (by omega)]
      · rw [if_neg h2, if_neg (by omega)]
  · rw [List.getElem?_eq_none (by rw [List.length_set, rr_length]; omega), List.getElem?_eq_none (by rw [rr_length]; omega)]
def refRev (ps : List P3) (l : List (Nat × Nat × Nat)) (qs : List P3) : List P3 := l.foldl (fun q p => rr ps q p.2.1 p.2.2 (p.2.2 + 1)) qs

/-- a piece's parts -/
theorem pcsF_get {len : Nat} {es : List Int} : ∀ {k f : Nat} {p : Nat × Nat × Nat}, p ∈ pcsF len k f es → f ≤ p.2.1 ∧ p.2.1 ≤ p.2.2 ∧ p.2.2 < len := by
  induction es with
  | nil => intro k f p h; simp [pcsF] at h
  | cons e es ih =>
    intro k f p h
    rw [pcsF] at h
    split at h
    · rename_i hc
      rcases List.mem_cons.1 h with rfl | h
      · exact ⟨Nat.le_refl _, by simp only; omega, by simp only; omega⟩
      · have := ih h
        exact ⟨by omega, this.2⟩
    · simp at h
/-- pieces stand behind one another: what is read of ps is what stands there -/
theorem refRev_eq (ps : List P3) (es : List Int) : ∀ (k f : Nat) (qs : List P3), qs.length = ps.length → (∀ t, f ≤ t → t < ps.length → qs[t]? = ps[t]?) → refRev ps (pcsF ps.length k f es) qs = revAll qs (pcsF ps.length k f es) := by
  induction es with
  | nil => intro k f qs _ _; simp [pcsF, refRev, revAll]
  | cons e es ih =>
    intro k f qs hl hq
    rw [pcsF]
    split
    · rename_i hc
      have h1 : rr ps qs f e.toNat (e.toNat + 1) = revS qs (k, f, e.toNat) := by
        apply List.ext_getElem?
        intro t
        by_cases ht : t < qs.length
        · show _ = (byIdx qs (rIx f e.toNat))[t]?
          rw [byIdx_get _ _ _ ht (by unfold rIx; split <;> omega)]
          simp only [rr, List.getElem?_map, List.getElem?_range ht, Option.map_some, rIx]
          by_cases h2 : f < t ∧ t ≤ e.toNat
          · rw [if_pos (by omega), if_pos h2, hq _ (by omega) (by omega)]
            rw [List.getD_eq_getElem?_getD, List.getElem?_eq_getElem (by omega)]
            rfl
          · rw [if_neg (by omega), if_neg h2]
            rw [List.getD_eq_getElem?_getD, List.getElem?_eq_getElem (by omega)]
            rfl
        · rw [List.getElem?_eq_none (by rw [rr_length]; omega), List.getElem?_eq_none (by rw [revS_length]; omega)]
      show refRev ps (pcsF ps.length (k + 1) (e.toNat + 1) es) (rr ps qs f e.toNat (e.toNat + 1)) = revAll (revS qs (k, f, e.toNat)) (pcsF ps.length (k + 1) (e.toNat + 1) es)
      rw [← h1]
      refine ih _ _ _ (by rw [rr_length]; exact hl) (fun t h2 h3 => ?_)
      rw [← hq t (by omega) h3]
      simp only [rr, List.getElem?_map, List.getElem?_range (show t < qs.length by omega), Option.map_some]
      rw [if_neg (by omega), List.getD_eq_getElem?_getD, List.getElem?_eq_getElem (by omega)]
      rfl
    · simp [refRev, revAll]

set_option maxHeartbeats 2000000 in
theorem refReversed_ok (w : World) (B : Nat) (A E : Option Addr) (n c m d : Nat) (ps : List P3) (es : List Int) (hA : Rd w B A n 3 (c3s ps)) (hE : Rd w B E m 1 (cIs es)) (hB : B ≤ w.heap.size)
    (hn : n * 24 ≤ 140737488355328) (hm : m * 16 ≤ 140737488355328) :
    Calls Try.prog 18 #[.agg #[.slice A n c, .slice E m d]] w (RetO w (revAll ps (pcsF n 0 0 es)) es) := by
  go_enter Try.func18, Try.ntmps18
  go_wp2_with fail
  refine (copied_ok _ B _ _ _ _ _ _ ps es ((hA.alloc hB _).alloc (by simp; omega) _) ((hE.alloc hB _).alloc (by simp; omega) _) (by simp; omega) hn (by omega)).mono ?_
  rintro e w1 ⟨v, u, rfl, hown, hownE, hb⟩
  simp only [World.size_alloc] at hown hownE hb
  have hsz := hb.size
  simp only [World.size_alloc] at hsz
  have hlen := Lib.hid hA.len3
  obtain ⟨A', c', rfl, -⟩ := Rd.of_own hown
  obtain ⟨E', d', rfl, -⟩ := Rd.of_own hownE
  have hO0 : w1.cell? ⟨w.heap.size, 0, none⟩ = some (.slice A n c) := (hb.cell (p := ⟨w.heap.size, 0, none⟩) (by simp; omega)).trans (by simp [go_sem])
  have hO1 : w1.cell? ⟨w.heap.size, 1, none⟩ = some (.slice E m d) := (hb.cell (p := ⟨w.heap.size, 1, none⟩) (by simp; omega)).trans (by simp [go_sem])
  have hR0 : w1.cell? ⟨w.heap.size + 1, 0, none⟩ = some (.slice none 0 0) := (hb.cell (p := ⟨w.heap.size + 1, 0, none⟩) (by simp)).trans (by simp [go_sem])
  have hR1 : w1.cell? ⟨w.heap.size + 1, 1, none⟩ = some (.slice none 0 0) := (hb.cell (p := ⟨w.heap.size + 1, 1, none⟩) (by simp)).trans (by simp [go_sem])
  have hF0 : ∀ o, w1.frozen? ⟨w.heap.size + 1, o, none⟩ = false := fun o => (hb.frozen (p := ⟨w.heap.size + 1, o, none⟩) (by simp)).trans (by simp [go_sem])
  have hlt0 : w.heap.size < w1.heap.size := by omega
  go_wp2_with fail
  refine (cuts_ok _ B _ n _ _ es ((((hE.alloc hB _).alloc (by simp; omega) _).below hb (by omega)).alloc (by omega) _) (by simp; omega) (by omega) hm).mono ?_
  rintro e w2 ⟨v2, rfl, hcut, hb2⟩
  simp only [World.size_alloc] at hcut hb2
  obtain ⟨C, cc, rfl, hrC⟩ := Rd.of_own hcut
  go_wp2_with fail
  have hs2 := hb2.size
  simp only [World.size_alloc] at hs2
  have hq0 : w2.cell? ⟨w1.heap.size, 0, none⟩ = some (.slice A' n c') := (hb2.cell (p := ⟨w1.heap.size, 0, none⟩) (by simp)).trans (by simp [go_sem])
  have hq1 : w2.cell? ⟨w1.heap.size, 1, none⟩ = some (.slice E' m d') := (hb2.cell (p := ⟨w1.heap.size, 1, none⟩) (by simp)).trans (by simp [go_sem])
  have hkp : ∀ k, k < w1.heap.size → w2.heap[k]? = w1.heap[k]? := fun k hk => (hb2.block k (by omega)).trans (Below.heap_alloc _ _ _ hk)
  have hO2 := (World.cell?_of_block (w := w1) (a := ⟨w.heap.size, 0, none⟩) (hkp _ (by simp; omega))).trans hO0
  have hR2 := (World.cell?_of_block (w := w1) (a := ⟨w.heap.size + 1, 0, none⟩) (hkp _ (by simp; omega))).trans hR0
  have hR3 := (World.cell?_of_block (w := w1) (a := ⟨w.heap.size + 1, 1, none⟩) (hkp _ (by simp; omega))).trans hR1
  have hF2 := fun o => (World.frozen?_of_block (w := w1) (a := ⟨w.heap.size + 1, o, none⟩) (hkp _ (by simp; omega))).trans (hF0 o)
  have hP : w2.ownsRow (w.heap.size + 1 + 1 + 1 + 1) 40 3 (.slice A' n c') n (c3s ps) := own_below (hown.alloc _) (by simpa using hb2)
  have hQ : w2.ownsRow (w.heap.size + 1 + 1 + 1 + 1) 3 1 (.slice E' m d') m (cIs es) := own_below (hownE.alloc _) (by simpa using hb2)
  have hbW : Below w.heap.size w w2 := ((((Below.refl _ w).alloc (Nat.le_refl _) _).alloc (by simp) _).trans (hb.mono (by omega))).trans ⟨hb2.os, hb2.tape, hb2.output, Nat.le_of_succ_le hs2, fun k hk => hkp k (by omega)⟩
  have hblk : ∀ g, (Value.slice A' n c').ownBlock = some g → w.heap.size + 1 + 1 + 1 + 1 ≤ g ∧ g < w1.heap.size := fun g hg => ⟨(hown.lt g hg).1, (hown.lt g hg).2⟩
  have hcl : ∀ p ∈ pcsF n 0 0 es, p.2.1 ≤ p.2.2 ∧ p.2.2 < n := fun p hp => (pcsF_get hp).2
  have hfin : Hid (refRev ps (pcsF n 0 0 es) ps = revAll ps (pcsF n 0 0 es)) := by
    have := refRev_eq ps es 0 0 ps rfl (fun _ _ _ => rfl)
    rw [hlen.out] at this
    exact this
  have htm : (pcsF n 0 0 es).length ≤ m := by have h1 := pcsF_length n es 0 0; have h2 := hE.lenI; omega
  have hCb : 0 < (pcsF n 0 0 es).length → ∃ cb co, C = some ⟨cb, co, none⟩ ∧ w1.heap.size + 1 ≤ cb ∧ cb < w2.heap.size := by
    intro h
    obtain ⟨g, cap, hv, hg, hgl⟩ := hcut.form h
    simp only [Value.slice.injEq, true_and] at hv
    exact ⟨g, 0, hv.1, hg, hgl⟩
  have HFin := (Lib.hid hE)
  generalize pcsF n 0 0 es = cl at *
  have HC := Lib.hid hcl
  clear hcl hO0 hO1 hR0 hR1 hF0 hown hownE hb hb2 hcut hE
  generalize ht : cl.length = t at *
  have Ht := Lib.hid ht
  clear ht
  have hA2 : Rd w2 B A n 3 (c3s ps) := hA.below hbW hB
  go_loopw [5] (fun i wr => ∃ k : Nat, k ≤ t ∧ i = .int .i64 k ∧ wr.ownsRow (w.heap.size + 1 + 1 + 1 + 1) 40 3 (.slice A' n c') n (c3s (refRev ps (cl.take k) ps)) ∧ w2.grownBy wr (Value.slice A' n c').ownBlock) (fun i _ => t - (intOf i).toNat)
  case atStart => exact ⟨0, by omega, rfl, hP, World.grownBy.refl _ _⟩
  case round =>
    obtain ⟨k, hk, rfl, how, hgr⟩ := hrel
    by_cases hlt : k < t
    · obtain ⟨cb, co, rfl, hcb1, hcb2⟩ := hCb (by omega)
      obtain ⟨cb', co', x1, x2, e1, -, hp, h1, h2⟩ := hrC.at2 hlt
      simp only [Option.some.injEq, Addr.mk.injEq, and_true] at e1
      obtain ⟨rfl, rfl⟩ := e1
      obtain ⟨p, hpc, hpe⟩ : ∃ p, cl[k]? = some p ∧ cutP p = (x1, x2) := by
        have := hp.out
        simp only [List.getElem?_map, Option.map_eq_some_iff] at this
        exact this
      obtain ⟨pi, f, e⟩ := p
      simp only [cutP, Prod.mk.injEq] at hpe
      obtain ⟨rfl, rfl⟩ := hpe
      have hfe := HC.out _ (List.mem_of_getElem? hpc)
      dsimp only at hfe
      obtain ⟨hfe, hen⟩ := hfe
      have hnext : Hid (refRev ps (cl.take (k + 1)) ps = rr ps (refRev ps (cl.take k) ps) f e (e + 1)) := by
        obtain ⟨h1, h2⟩ := List.getElem?_eq_some_iff.1 hpc
        show _ = _
        rw [List.take_succ_eq_append_getElem h1, h2]
        simp [refRev]
      have hqlen : Hid ((refRev ps (cl.take k) ps).length = n) := by
        have := how.1
        rw [c3s_length] at this
        show _ = _
        omega
      generalize refRev ps (cl.take k) ps = qs at *
      clear hpc hp
      have hfar : ∀ b, b < w.heap.size + 1 + 1 + 1 + 1 ∨ w1.heap.size ≤ b → some b ≠ (Value.slice A' n c').ownBlock := fun b hb e => by have := hblk _ e.symm; omega
      have Hf := Lib.hid hfar
      clear hfar
      have h1' : wr.cell? ⟨cb, co + k * 2, none⟩ = some (.int .i64 (f : Int)) := (hgr.cell_far ⟨cb, co + k * 2, none⟩ hcb2 (Hf.out _ (by right; simp; omega))).trans h1
      have h2' : wr.cell? ⟨cb, co + k * 2 + 1, none⟩ = some (.int .i64 (e : Int)) := (hgr.cell_far ⟨cb, co + k * 2 + 1, none⟩ hcb2 (Hf.out _ (by right; simp; omega))).trans h2
      obtain ⟨wo, rfl⟩ : ∃ wo : World, wo = wr := ⟨_, rfl⟩
      go_wp2_with fail
      go_loopw [6] (fun i ws => ∃ kk : Nat, f + 1 ≤ kk ∧ kk ≤ e + 1 ∧ i = .int .i64 kk ∧ ws.ownsRow (w.heap.size + 1 + 1 + 1 + 1) 40 3 (.slice A' n c') n (c3s (rr ps qs f e kk)) ∧ w2.grownBy ws (Value.slice A' n c').ownBlock) (fun i _ => e + 1 - (intOf i).toNat)
      case atStart => exact ⟨f + 1, by omega, by omega, by go_num, by rw [rr_first]; exact how, hgr⟩
      case round =>
        obtain ⟨kk, hk1, hk2, rfl, hows, hgs⟩ := hrel
        have c1 : wr.cell? ⟨cb, co + k * 2, none⟩ = some (.int .i64 (f : Int)) := (hgs.cell_far ⟨cb, co + k * 2, none⟩ hcb2 (Hf.out _ (by right; simp; omega))).trans h1
        have c2 : wr.cell? ⟨cb, co + k * 2 + 1, none⟩ = some (.int .i64 (e : Int)) := (hgs.cell_far ⟨cb, co + k * 2 + 1, none⟩ hcb2 (Hf.out _ (by right; simp; omega))).trans h2
        by_cases hle : kk ≤ e
        · have c3 := (hgs.cell_far ⟨w1.heap.size, 0, none⟩ (by simp; omega) (Hf.out _ (by right; simp))).trans hq0
          have c4 := (hgs.cell_far ⟨w.heap.size, 0, none⟩ (by simp; omega) (Hf.out _ (by left; simp; omega))).trans hO2
          obtain ⟨g, cap, hv, hg, hgl⟩ := hows.form (by omega)
          simp only [Value.slice.injEq, true_and] at hv
          obtain ⟨rfl, rfl⟩ := hv
          have hgb := hblk g rfl
          obtain ⟨j, hj⟩ : ∃ j : Nat, j = f + e + 1 - kk := ⟨_, rfl⟩
          have hjI : (e : Int) + (f : Int) + 1 - (kk : Int) = (j : Int) := by omega
          have hjn : j < n := by omega
          have Hj := Lib.hid hj
          clear hj
          obtain ⟨b, o, x, y, z, rfl, hbB, hpj, d1, d2, d3⟩ := hA2.at3 hjn
          have d1' := (hgs.cell_far ⟨b, o + j * 3, none⟩ (by simp; omega) (Hf.out _ (by left; simp; omega))).trans d1
          have d2' := (hgs.cell_far ⟨b, o + j * 3 + 1, none⟩ (by simp; omega) (Hf.out _ (by left; simp; omega))).trans d2
          have d3' := (hgs.cell_far ⟨b, o + j * 3 + 2, none⟩ (by simp; omega) (Hf.out _ (by left; simp; omega))).trans d3
          have hfz := hows.frozenAt
          have hkn : kk < n := by omega
          obtain ⟨p1, p2, p3, hk1', hk2', hk3'⟩ : ∃ p1 p2 p3, wr.cell? ⟨g, kk * 3, none⟩ = some p1 ∧ wr.cell? ⟨g, kk * 3 + 1, none⟩ = some p2 ∧ wr.cell? ⟨g, kk * 3 + 2, none⟩ = some p3 := by
            obtain ⟨A2, c2, hv2, hrd⟩ := Rd.of_own hows
            simp only [Value.slice.injEq, true_and] at hv2
            obtain ⟨rfl, rfl⟩ := hv2
            obtain ⟨b1, o1, x1, y1, z1, e1, -, -, h11, h12, h13⟩ := hrd.at3 (k := kk) hkn
            simp only [Option.some.injEq, Addr.mk.injEq, and_true] at e1
            obtain ⟨rfl, rfl⟩ := e1
            simp only [Nat.zero_add] at h11 h12 h13
            exact ⟨_, _, _, h11, h12, h13⟩
          go_wp2_with fail
          go_region
          all_goals go_wp2_with fail
          go_roundw
          case rel =>
            have s1 := own_set3 hows (k := kk) (by rw [rr_length, hqlen.out]; exact hkn) x y z
            rw [rr_succ ps qs f e kk (x, y, z) (by omega) (by rw [← Hj.out]; exact hpj.out)] at s1
            have s2 := only_drew (only_setCell (p := ⟨g, kk * 3 + 2, none⟩) (only_setCell (p := ⟨g, kk * 3 + 1, none⟩) (only_setCell (p := ⟨g, kk * 3, none⟩) hgs (.inl rfl) (.int .i64 x)) (.inl rfl) (.int .i64 y)) (.inl rfl) (.bool z))
            exact ⟨kk + 1, by omega, by omega, by go_num, s1.drew, s2⟩
          case measure => simp [intOf]; omega
        · go_wp2_with fail
          go_roundw
          case rel =>
            refine ⟨k + 1, by omega, by go_num, ?_, hgs⟩
            rw [hnext.out, show e + 1 = kk by omega]
            exact hows
          case measure => simp [intOf]; omega
    · have hfar : ∀ b, b < w.heap.size + 1 + 1 + 1 + 1 ∨ w1.heap.size ≤ b → some b ≠ (Value.slice A' n c').ownBlock := fun b hb e => by have := hblk _ e.symm; omega
      have c3 := (hgr.cell_far ⟨w1.heap.size, 0, none⟩ (by simp; omega) (hfar _ (by right; simp))).trans hq0
      have c4 := (hgr.cell_far ⟨w1.heap.size, 1, none⟩ (by simp; omega) (hfar _ (by right; simp))).trans hq1
      have hR4 := (hgr.cell_far ⟨w.heap.size + 1, 0, none⟩ (by simp; omega) (hfar _ (by left; simp))).trans hR2
      have hR5 := (hgr.cell_far ⟨w.heap.size + 1, 1, none⟩ (by simp; omega) (hfar _ (by left; simp))).trans hR3
      have hF4 := fun o => (hgr.frozen_far ⟨w.heap.size + 1, o, none⟩ (by simp; omega) (hfar _ (by left; simp))).trans (hF2 o)
      have hQ2 := hQ.kept hgr (own_ne hQ hP (by decide))
      have hbr : Below w.heap.size w wr := hbW.grown hgr hbW.size (fun g hg => by have := hblk g hg; omega)
      clear hfar
      go_wp2_with fail
      refine bodyPost_ret (v := .agg #[.slice A' n c', .slice E' m d']) (by simp [results, Try.results18, go_sem, hR4, hR5]) rfl ?_
      rw [List.take_of_length_le (by rw [Ht.out]; omega), hfin.out] at how
      have hx : w.heap.size + 1 < w.heap.size + 1 + 1 + 1 + 1 := by omega
      exact retO_of_own (ownsRow_setCell_below (a := ⟨w.heap.size + 1, 1, none⟩) (ownsRow_setCell_below (a := ⟨w.heap.size + 1, 0, none⟩) how hx _) hx _) (ownsRow_setCell_below (a := ⟨w.heap.size + 1, 1, none⟩) (ownsRow_setCell_below (a := ⟨w.heap.size + 1, 0, none⟩) hQ2 hx _) hx _)
        ((hbr.setCell (p := ⟨w.heap.size + 1, 0, none⟩) (by simp) _).setCell (p := ⟨w.heap.size + 1, 1, none⟩) (by simp) _)
end Go.Proofs.Ytfpdbdbgemolgaa
