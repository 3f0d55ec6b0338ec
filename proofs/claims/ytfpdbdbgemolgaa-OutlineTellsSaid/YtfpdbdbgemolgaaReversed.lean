/- The contract of outline.Reversed. -/
import Derived.Test.YtfpdbdbgemolgaaArea
import Derived.Test.YtfpdbdbgemolgaaReverse
namespace Go.Proofs.Ytfpdbdbgemolgaa
open Go.RowKit Go.Shelf
attribute [local go_sem] Oper.semAt_some

/-- the places of a contour that is turned round, from its first point on -/
def rIx (f e t : Nat) : Nat := if f < t ∧ t ≤ e then f + e + 1 - t else t
def revS (ps : List P3) (p : Nat × Nat × Nat) : List P3 := byIdx ps (rIx p.2.1 p.2.2)
def revAll (ps : List P3) (l : List (Nat × Nat × Nat)) : List P3 := l.foldl revS ps
theorem revS_length (ps : List P3) (p : Nat × Nat × Nat) : (revS ps p).length = ps.length := byIdx_length _ _
theorem revAll_length (l : List (Nat × Nat × Nat)) : ∀ ps : List P3, (revAll ps l).length = ps.length := by
  induction l with
  | nil => intro ps; rfl
  | cons p l ih => intro ps; show (revAll (revS ps p) l).length = _; rw [ih, revS_length]
theorem revS_of (ps : List P3) (i f e : Nat) (h : f ≤ e) : byIdx ps (rvIx (f + 1) (e - f) ((e - f) / 2)) = revS ps (i, f, e) := by
  refine byIdx_congr ps _ _ (fun t _ => ?_)
  show _ = rIx f e t
  unfold rvIx rIx
  split <;> split <;> omega

theorem row_own {β : Type} (n₀ : Nat) (e : TypeId) (size n : Nat) (v : Value) (f : β → List Value) : Own (fun s W => W.ownsRow n₀ e size v n (f s)) := fun s X Y row hs hg hrow => by
  refine hs.kept hg ?_
  rcases hs.2 with ⟨rfl, _⟩ | ⟨g, cap, cur, rfl, _, hh, _⟩
  · exact .inl rfl
  · refine .inr (fun e => ?_)
    obtain ⟨o, ho, hc⟩ := hrow g e.symm
    rw [hh] at ho
    cases ho
    cases hc

set_option maxRecDepth 100000 in
set_option maxHeartbeats 2000000 in
theorem reversed_ok (w : World) (B : Nat) (A E : Option Addr) (n c m d : Nat) (ps : List P3) (es : List Int) (hA : Rd w B A n 3 (c3s ps)) (hE : Rd w B E m 1 (cIs es)) (hB : B ≤ w.heap.size)
    (hn : n * 24 ≤ 140737488355328) (hm : m * 8 ≤ 140737488355328) :
    Calls Try.prog 17 #[.agg #[.slice A n c, .slice E m d]] w (RetO w (revAll ps (pcsF n 0 0 es)) es) := by
  refine (callsIn_wide (n := 9)).1 ?_
  refine callsIn_of_wp_marks Try.func17 rfl trivial ?_ rfl
  simp only [Try.ntmps17, List.size_toArray, List.length_cons, List.length_nil, Nat.reduceAdd, Nat.reduceSub, Array.replicate_succ, Array.replicate_zero, List.push_toArray, List.append_toArray, List.nil_append, List.cons_append]
  gi_wp2_with fail
  refine ⟨trivial, ?_⟩
  refine (callsIn_wide.2 (clone3 _ B _ _ _ ps ((hA.alloc hB _).alloc (by simp; omega) _) (by simp; omega) hn)).mono ?_
  rintro e w1 ⟨v, rfl, hown, hb⟩
  simp only [World.size_alloc] at hown hb
  have hsz := hb.size
  simp only [World.size_alloc] at hsz
  have hE0 : w1.cell? ⟨w.heap.size, 1, none⟩ = some (.slice E m d) := (hb.cell (p := ⟨w.heap.size, 1, none⟩) (by simp; omega)).trans (by simp [go_sem])
  have hR0 : w1.cell? ⟨w.heap.size + 1, 0, none⟩ = some (.slice none 0 0) := (hb.cell (p := ⟨w.heap.size + 1, 0, none⟩) (by simp)).trans (by simp [go_sem])
  have hR1 : w1.cell? ⟨w.heap.size + 1, 1, none⟩ = some (.slice none 0 0) := (hb.cell (p := ⟨w.heap.size + 1, 1, none⟩) (by simp)).trans (by simp [go_sem])
  have hF0 : ∀ o, w1.frozen? ⟨w.heap.size + 1, o, none⟩ = false := fun o => (hb.frozen (p := ⟨w.heap.size + 1, o, none⟩) (by simp)).trans (by simp [go_sem])
  obtain ⟨A', c', rfl, -⟩ := Rd.of_own hown
  gi_wp2_with fail
  refine ⟨trivial, ?_⟩
  refine (callsIn_wide.2 (pieces3_call _ _ _ _ _ _ _)).mono ?_
  rintro e w' ⟨rfl, rfl⟩
  gi_wp2_with fail
  obtain ⟨g, hbo⟩ : ∃ g, 0 < n → A' = some ⟨g, 0, none⟩ := by
    by_cases h : 0 < n
    · obtain ⟨g, cap, hv, _⟩ := hown.form h
      simp only [Value.slice.injEq, true_and] at hv
      exact ⟨g, fun _ => hv.1⟩
    · exact ⟨0, fun h' => absurd h' h⟩
  have hcc : n ≤ c' ∧ c' ≤ 9223372036854775807 := by
    rcases hown.2 with ⟨h, h0⟩ | ⟨g', cap', cur, h, _, _, h1, h2, _⟩
    · simp only [Value.slice.injEq] at h
      omega
    · simp only [Value.slice.injEq, true_and] at h
      obtain ⟨_, rfl⟩ := h
      simp only [maxLen] at h2
      omega
  obtain ⟨W0, hW0⟩ : ∃ W0, (w1.alloc (.cells #[.slice A' n c'] 22)).alloc (.cells #[.slice E m d] 23) = W0 := ⟨_, rfl⟩
  have hs0 : W0.heap.size = w1.heap.size + 2 := by rw [← hW0]; simp
  have hb0 : Below w1.heap.size w1 W0 := by rw [← hW0]; exact ((Below.refl _ _).alloc (Nat.le_refl _) _).alloc (by simp) _
  have hcr : W0.cell? ⟨w1.heap.size, 0, none⟩ = some (.slice A' n c') := by rw [← hW0]; simp [go_sem]
  have hce : W0.cell? ⟨w1.heap.size + 1, 0, none⟩ = some (.slice E m d) := by rw [← hW0]; simp [go_sem]
  have hbw : Below (w.heap.size + 1 + 1) ((w.alloc (.cells #[.slice A n c, .slice E m d] 25)).alloc (.cells #[.slice none 0 0, .slice none 0 0] 25)) W0 := hb.trans (hb0.mono (by omega))
  have hEW : Rd W0 B E m 1 (cIs es) := ((hE.alloc hB _).alloc (by simp; omega) _).below hbw (by omega)
  have hP0 : W0.ownsRow (w.heap.size + 1 + 1) 40 3 (.slice A' n c') n (c3s ps) := own_below hown hb0
  have hblk : ∀ g, (Value.slice A' n c').ownBlock = some g → w.heap.size + 1 + 1 ≤ g ∧ g < w1.heap.size := fun g hg => ⟨(hown.lt g hg).1, (hown.lt g hg).2⟩
  rw [hW0]
  clear hW0
  refine wpIn_rangeFunc_ownF rfl (by omega) (gf := 47) (lb := #[.pointer (some ⟨w1.heap.size + 1, 0, none⟩), .pointer (some ⟨w1.heap.size, 0, none⟩)]) rfl trivial (enters_of Try.func47 (by kernel_rfl) rfl)
    (pieces3_stops 8 (by omega) _ _ g 0 n c' m d B A' E es (fun k => k < B ∨ k = w1.heap.size + 1 ∨ k = w1.heap.size) (fun _ h => .inl h) (.inr (.inl rfl)) (.inr (.inr rfl)) hbo hcc.1 hcc.2 (by omega) W0 (by omega) hEW hce hcr)
    (fun h k => h.trans k) (fun W l o o' _ h hc _ => KeepT.put W l o o' h hc) (Below.refl _ _) (fun _ => rfl)
    (fun pre W => W.ownsRow (w.heap.size + 1 + 1) 40 3 (.slice A' n c') n (c3s (revAll ps (pre.map (·.1)))) ∧ W0.grownBy W (Value.slice A' n c').ownBlock)
    (fun _ _ _ => False)
    (OwnFrom.and (Own.from (row_own _ _ _ _ _ _) _) ownFrom_grown)
    (fun _ _ _ _ _ h _ _ => h)
    ⟨hP0, World.grownBy.refl _ _⟩
    (fun x => { tmps := #[.agg #[.slice A n c, .slice E m d], .pointer (some ⟨w.heap.size, 0, none⟩), .pointer (some ⟨w.heap.size + 1, 0, none⟩), .slice A' n c', undef, .slice (some ⟨g, x.1.2.1 * 3, none⟩) (x.1.2.2 + 1 - x.1.2.1) (x.1.2.2 + 1 - x.1.2.1), .pointer (some ⟨w.heap.size, 0, none⟩), .slice A n c, .slice A' n c', .slice A' n c', .pointer (some ⟨w.heap.size, 1, none⟩), .slice E m d, .func (.func 47) #[] #[.pointer (some ⟨w1.heap.size + 1, 0, none⟩), .pointer (some ⟨w1.heap.size, 0, none⟩)], .int .i64 (x.1.1 : Int), .slice (some ⟨g, x.1.2.1 * 3, none⟩) (x.1.2.2 + 1 - x.1.2.1) (x.1.2.2 + 1 - x.1.2.1), undef, undef, undef, undef, undef, undef, undef, undef], defers := [] }) ?assign ?body ?done ?stop
  case assign =>
    intro l x W K hK
    gi_wp2
    exact hK
  case body =>
    rintro l pre ⟨⟨idx, f, e⟩, hfe, hen⟩ W ⟨hrow, hgr⟩ hlen
    dsimp only at hfe hen ⊢
    obtain rfl := hbo (by omega)
    have hgb := hblk g rfl
    have hfin : Hid (revAll ps ((pre ++ [(⟨(idx, f, e), hfe, hen⟩ : Pc n)]).map (·.1)) = byIdx (revAll ps (pre.map (·.1))) (rvIx (f + 1) (e - f) ((e - f) / 2))) := by
      show _ = _
      rw [revS_of _ idx f e hfe]
      simp [revAll]
    generalize revAll ps (pre.map (·.1)) = qs at *
    obtain ⟨L, hL⟩ : ∃ L, e = f + L := ⟨e - f, by omega⟩
    subst hL
    have e1 : f + L + 1 - f = L + 1 := by omega
    have e2 : f + L - f = L := by omega
    rw [e1]
    rw [e2] at hfin
    have hbe : ∀ w' : World, w'.ownsRow (w.heap.size + 1 + 1) 40 3 (.slice (some ⟨g, 0, none⟩) n c') n (c3s (byIdx qs (rvIx (f + 1) L (L / 2)))) → W.grownBy w' (some g) →
        KeepsOthers W w' ∧ KeepT (fun k => k < B ∨ k = w1.heap.size + 1 ∨ k = w1.heap.size) W w' ∧ w'.ownsRow (w.heap.size + 1 + 1) 40 3 (.slice (some ⟨g, 0, none⟩) n c') n (c3s (revAll ps ((pre ++ [(⟨(idx, f, f + L), hfe, hen⟩ : Pc n)]).map (·.1)))) ∧ W0.grownBy w' (Value.slice (some ⟨g, 0, none⟩) n c').ownBlock := by
      intro w' h1 h2
      refine ⟨KeepsOthers.of_grownBy h2 (fun j o hj ho => ?_), KeepT.of_grown h2 (fun b hb => ?_), by rw [hfin.out]; exact h1, grownBy_trans hgr h2⟩
      · cases hj
        rcases hrow.2 with ⟨h, _⟩ | ⟨g', cap', cur, h, _, hh, _⟩
        · cases h
        · simp only [Value.slice.injEq, Option.some.injEq, Addr.mk.injEq, and_true, true_and] at h
          obtain ⟨rfl, rfl⟩ := h
          rw [hh] at ho
          cases ho
          rfl
      · simp only [ne_eq, Option.some.injEq]
        omega
    clear e1 e2 hfin
    have Hbe := Lib.hid hbe
    clear hbe
    rcases Nat.eq_zero_or_pos L with rfl | hL
    · gi_wp2_with fail
      refine ⟨trivial, ?_⟩
      refine (CallsIn.inRound l (callsIn_wide.2 (reverse_ok W (w.heap.size + 1 + 1) g n c' (f + 1) 0 _ qs hrow (by omega) (by omega) _ (fun h => absurd h (by omega))))).mono ?_
      rintro e w' ⟨⟨v, rfl⟩, h1, h2⟩
      gi_wp2
      exact Hbe.out w' h1 h2
    · gi_wp2_with fail
      refine ⟨trivial, ?_⟩
      refine (CallsIn.inRound l (callsIn_wide.2 (reverse_ok W (w.heap.size + 1 + 1) g n c' (f + 1) L _ qs hrow (by omega) (by omega) _ (fun _ => by rw [Nat.add_mul])))).mono ?_
      rintro e w' ⟨⟨v, rfl⟩, h1, h2⟩
      gi_wp2
      exact Hbe.out w' h1 h2
  case done =>
    rintro D ys W hD hS ⟨hrow, hgr⟩ hK
    have hfar : ∀ k, k < w.heap.size + 1 + 1 → some k ≠ (Value.slice A' n c').ownBlock := fun k hk e => by have := hblk _ e.symm; omega
    have hE2 := (hgr.cell_far ⟨w.heap.size, 1, none⟩ (by simp; omega) (hfar _ (by simp; omega))).trans ((hb0.cell (p := ⟨w.heap.size, 1, none⟩) (by simp; omega)).trans hE0)
    have hR2 := (hgr.cell_far ⟨w.heap.size + 1, 0, none⟩ (by simp; omega) (hfar _ (by simp))).trans ((hb0.cell (p := ⟨w.heap.size + 1, 0, none⟩) (by simp; omega)).trans hR0)
    have hR3 := (hgr.cell_far ⟨w.heap.size + 1, 1, none⟩ (by simp; omega) (hfar _ (by simp))).trans ((hb0.cell (p := ⟨w.heap.size + 1, 1, none⟩) (by simp; omega)).trans hR1)
    have hF2 := fun o => (hgr.frozen_far ⟨w.heap.size + 1, o, none⟩ (by simp; omega) (hfar _ (by simp))).trans ((hb0.frozen (p := ⟨w.heap.size + 1, o, none⟩) (by simp; omega)).trans (hF0 o))
    have hbW : Below w.heap.size w W := by
      refine Below.grown ?_ hgr (by omega) (fun k hk => by have := hblk k hk; omega)
      exact (((Below.refl _ w).alloc (Nat.le_refl _) _).alloc (by simp) _).trans (hbw.mono (by omega))
    have hszW := hgr.size
    have HS := Lib.hid hS
    clear hS hfar hE0 hR0 hR1 hF0
    gi_wp2_with fail
    refine ⟨trivial, ?_⟩
    refine (callsIn_wide.2 (cloneI W B _ _ _ es (hE.below hbW hB) (by omega) hm)).mono ?_
    rintro e w2 ⟨u, rfl, hownE, hb2⟩
    have hR4 := (hb2.cell (p := ⟨w.heap.size + 1, 0, none⟩) (by simp; omega)).trans hR2
    have hR5 := (hb2.cell (p := ⟨w.heap.size + 1, 1, none⟩) (by simp; omega)).trans hR3
    have hF4 := fun o => (hb2.frozen (p := ⟨w.heap.size + 1, o, none⟩) (by simp; omega)).trans (hF2 o)
    have hrow2 := own_below hrow hb2
    have hK2 : w2.heap[D]? = some (.deferred (some [])) := (hb2.block D (Array.getElem?_eq_some_iff.1 hK).1).trans hK
    obtain ⟨E', d', rfl, -⟩ := Rd.of_own hownE
    gi_wp2
    obtain ⟨W3, hW3⟩ : ∃ W3, (w2.setCell ⟨w.heap.size + 1, 0, none⟩ (.slice A' n c')).setCell ⟨w.heap.size + 1, 1, none⟩ (.slice E' m d') = W3 := ⟨_, rfl⟩
    rw [hW3]
    have hK3 : W3.heap[D]? = some (.deferred (some [])) := by rw [← hW3]; exact (KeepsOthers.setCell _ _ _).same D _ ((KeepsOthers.setCell _ _ _).same D _ hK2 rfl) rfl
    have hR6 : W3.cell? ⟨w.heap.size + 1, 0, none⟩ = some (.slice A' n c') := by rw [← hW3]; simp [go_sem, hR4]
    have hR7 : W3.cell? ⟨w.heap.size + 1, 1, none⟩ = some (.slice E' m d') := by rw [← hW3]; simp [go_sem, hR5]
    have hrow3 : W3.ownsRow (w.heap.size + 1 + 1) 40 3 (.slice A' n c') n (c3s (revAll ps (ys.map (·.1)))) := by rw [← hW3]; exact ownsRow_setCell_below (ownsRow_setCell_below hrow2 (by simp) _) (by simp) _
    have hrowE3 : W3.ownsRow W.heap.size 3 1 (.slice E' m d') m (cIs es) := by rw [← hW3]; exact ownsRow_setCell_below (ownsRow_setCell_below hownE (by simp; omega) _) (by simp; omega) _
    have hbW3 : Below w.heap.size w W3 := by rw [← hW3]; exact ((hbW.trans (hb2.mono (by omega))).setCell (by simp) _).setCell (by simp) _
    clear hW3
    refine ⟨by simp, .inl ⟨_, _, rfl, run_takeDeferred hK3, ?_⟩⟩
    have hne : ∀ k, k = w.heap.size + 1 → (W3.putObj D (.deferred none)).heap[k]? = W3.heap[k]? := fun k hk => World.putObj_heap_other (by omega)
    have hR8 := (World.cell?_of_block (w := W3) (a := ⟨w.heap.size + 1, 0, none⟩) (hne _ rfl)).trans hR6
    have hR9 := (World.cell?_of_block (w := W3) (a := ⟨w.heap.size + 1, 1, none⟩) (hne _ rfl)).trans hR7
    refine ⟨.agg #[.slice A' n c', .slice E' m d'], by simp [results, Try.results17, go_sem, hR8, hR9], ?_⟩
    rw [← HS.out]
    exact retO_of_own (ownsRow_putObj hrow3 _ hK3 rfl) (ownsRow_putObj hrowE3 _ hK3 rfl) (hbW3.trans (belowK_b (w := w) (Nat.le_refl _) W3 D _ _ (by omega) hK3 rfl rfl))
  case stop =>
    rintro D c pre W _ _ h _
    exact h.elim
end Go.Proofs.Ytfpdbdbgemolgaa
