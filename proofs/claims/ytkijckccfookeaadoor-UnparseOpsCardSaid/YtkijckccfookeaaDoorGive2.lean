/- outline.Contours' function: what it hands on. -/
import Derived.Test.YtkijckccfookeaaDoorGive
namespace Go.Proofs.YtkijckccfookeaaDoor
open Go.RowKit Go.Shelf
attribute [local go_sem] Oper.semAt_some

/-- between two rounds of the inner loop -/
def CI (J : List Pc4 → World → Prop) (g : Nat) (W0 : World) (pre : List Pc3) (W : World) : Prop := J (atG g pre) W ∧ KC W0 W
theorem ci_own {J : List Pc4 → World → Prop} {g B B' : Nat} {W0 : World} (hJ : OwnFrom B J) (hB : B ≤ B') : OwnFrom B' (CI J g W0) := by
  intro s A C row hs hg hr
  have hr' : ∀ r, row = some r → ∃ o : Obj, A.heap[r]? = some o ∧ o.isCells = false := fun r e => (hr r e).2
  refine ⟨hJ _ A C row hs.1 hg (fun r e => ⟨Nat.le_trans hB (hr r e).1, (hr r e).2⟩), fun b cs t fz hb h1 h2 => ?_, Nat.le_trans hs.2.size hg.size⟩
  have h3 := hs.2.same b cs t fz hb h1 h2
  exact (grownBy_keeps_cells hg hr' h3 rfl).trans h3
theorem own_caps {w : World} {base n c size : Nat} {e : TypeId} {A : Option Addr} {xs : List Value} (h : w.ownsRow base e size (.slice A n c) n xs) : n ≤ c ∧ c ≤ 9223372036854775807 := by
  rcases h.2 with ⟨h, h0⟩ | ⟨g', cap', cur, h, _, _, h3, h4, _⟩
  · simp only [Value.slice.injEq] at h
    omega
  · simp only [Value.slice.injEq, true_and] at h
    obtain ⟨_, rfl⟩ := h
    simp only [maxLen] at h4
    omega
set_option maxRecDepth 100000 in
set_option maxHeartbeats 4000000 in
theorem cont_gives (w : World) (n m pb eb cv cu : Nat) (Av Eu : Option Addr) (cs : List Value) (h1c : ∀ u ∈ cs, u.oneCell' = true) (es : List Int) (hP : Bk w pb 49 #[.slice Av n cv]) (hrow : Rd w w.heap.size Av n 3 cs) (hQ : Bk w eb 22 #[.slice Eu m cu]) (hEr : RdT w 3 Eu m 1 (cIs es))
    (hn : n ≤ 100000000000) (hm : m ≤ 100000000000) :
    Gives Tryd.prog 69 #[.pointer (some ⟨pb, 0, none⟩), .pointer (some ⟨eb, 0, none⟩)] encsC (VC n cs es) KC (SC n es) 10 w := by
  intro l k J W hk hl hW hJ hY h0
  have hP1 := hP.below hW
  have hQ1 := hQ.below hW
  have hr1 := hrow.below hW (Nat.le_refl _)
  have hE1 := hEr.below hW
  have hs1 := hW.size
  have p0 : W.cell? ⟨pb, 0, none⟩ = some (.slice Av n cv) := hP1.cell 0
  have e0 : W.cell? ⟨eb, 0, none⟩ = some (.slice Eu m cu) := hQ1.cell 0
  have zp := hP1.lt
  have ze := hQ1.lt
  clear hP hQ hrow hEr
  refine callsIn_of_wp_marks Tryd.func69 rfl trivial ?_ rfl
  simp only [Tryd.ntmps69, List.size_toArray, List.length_cons, List.length_nil, Nat.reduceAdd, Nat.reduceSub, Array.replicate_succ, Array.replicate_zero, List.push_toArray, List.append_toArray, List.nil_append, List.cons_append]
  gi_wp2_with fail
  gi_region_with (first
    | (refine ⟨trivial, fun _ => Nat.le_trans (by decide) hk, ?_⟩; gi_at_call 67; refine (callsIn_wide.2 (clone3 _ w.heap.size Av n cv cs h1c ((hr1.alloc (by omega) _).drew) (by simp; omega) (by omega))).mono ?_; rintro e w1 ⟨v, rfl, hown, hb1d⟩; have hb1 := unDrew hb1d; have e1 := cellB hb1 (cellA _ e0); obtain ⟨A1, c1, rfl, -⟩ := Rd.of_own hown)
    | (refine ⟨trivial, fun _ => Nat.le_trans (by decide) hk, ?_⟩; gi_at_call 70; refine (callsIn_wide.2 (pieces3_call A1 Eu n c1 m cu w1)).mono ?_; rintro e w' ⟨rfl, rfl⟩))
  all_goals
    obtain ⟨g, hg⟩ : ∃ g, 0 < n → A1 = some ⟨g, 0, none⟩ := by
      by_cases h : 0 < n
      · obtain ⟨g, cap, hv, _, _⟩ := hown.form h
        simp only [Value.slice.injEq, true_and] at hv
        exact ⟨g, fun _ => hv.1⟩
      · exact ⟨0, fun h' => absurd h' h⟩
    have hcap := own_caps hown
    have hY1 : Bk w1 W.heap.size 148 #[.func (.yield l) #[] #[]] := (bk1 W (.func (.yield l) #[] #[]) 148).below hb1
    have hs2 := hY1.lt
    have hE2 := (hE1.below ((Below.refl _ _).alloc (Nat.le_refl _) (.cells #[.func (.yield l) #[] #[]] 148))).below hb1
    gi_wp2_with fail
    obtain ⟨W0, hW0⟩ : ∃ W0, (w1.alloc (.cells #[.slice A1 n c1] 49)).alloc (.cells #[.slice Eu m cu] 22) = W0 := ⟨_, rfl⟩
    have hz0 : W0.heap.size = w1.heap.size + 2 := by rw [← hW0]; simp
    have hb0 : Below w1.heap.size w1 W0 := by rw [← hW0]; exact ((Below.refl _ _).alloc (Nat.le_refl _) _).alloc (by simp) _
    have hcr : Bk W0 w1.heap.size 49 #[.slice A1 n c1] := by rw [← hW0]; exact (bk1 _ _ _).alloc _
    have hce : Bk W0 (w1.heap.size + 1) 22 #[.slice Eu m cu] := by rw [← hW0]; exact bk2 _ _ _ _
    have hE3 := hE2.below hb0
    have hY3 := hY1.below hb0
    have hrow3 : RdT W0 146 A1 n 3 cs := (own_rdT hown).below hb0
    have hJ0 : J [] W0 := by
      have a1 := hJ.alloc (.cells #[.func (.yield l) #[] #[]] 148) h0
      have a2 : J [] w1 := hJ [] _ w1 none a1 (only_of_below hb1 none) (fun r e => by cases e)
      exact hJ [] _ W0 none a2 (only_of_below hb0 none) (fun r e => by cases e)
    rw [hW0]
    clear hW0
    have HY := Lib.hid hY
    have HJ := Lib.hid hJ
    clear hY hJ
    refine wpIn_range_give (d := 8) (by omega) (gf := 92) (lb := #[.pointer (some ⟨w1.heap.size + 1, 0, none⟩), .pointer (some ⟨w1.heap.size, 0, none⟩)]) rfl (enters_of Tryd.func92 (by kernel_rfl) rfl) (fun _ => rfl)
      (pieces_gives W0 _ _ g 0 n c1 m cu A1 Eu es hce hcr hE3 hg hcap.1 hcap.2 (by omega))
      (fun h k => h.trans k) (fun W l o o' h hc => KC.put W l o o' h hc) (fun _ _ _ _ _ _ h _ _ => h)
      (CI J g W0) (ci_own HJ.out (by omega)) ⟨hJ0, KC.refl _⟩
      (fun x => { tmps := #[.func (.yield l) #[] #[], .pointer (some ⟨pb, 0, none⟩), .pointer (some ⟨eb, 0, none⟩), .pointer (some ⟨W.heap.size, 0, none⟩), .int .i64 (x.1 : Int), .slice (some ⟨g, x.2.1 * 3, none⟩) (x.2.2 + 1 - x.2.1) (x.2.2 + 1 - x.2.1), .slice Av n cv, .slice A1 n c1, .slice Eu m cu, .func (.func 92) #[] #[.pointer (some ⟨w1.heap.size + 1, 0, none⟩), .pointer (some ⟨w1.heap.size, 0, none⟩)], .int .i64 (x.1 : Int), .slice (some ⟨g, x.2.1 * 3, none⟩) (x.2.2 + 1 - x.2.1) (x.2.2 + 1 - x.2.1), undef, undef, undef, undef, undef], defers := [] }) ?assign ?body ?done
    case assign =>
      intro l2 x W2 K hK
      simp only [encsP, Nat.zero_add]
      gi_wp2
      exact hK
    case body =>
      rintro l2 pre ⟨idx, f, e⟩ W2 ⟨hJ2, hK2⟩ ⟨hpx, hfe, hen⟩
      dsimp only at hfe hen ⊢
      have hyc2 : W2.cell? ⟨W.heap.size, 0, none⟩ = some (.func (.yield l) #[] #[]) := (hK2.bk hY3 (by decide) (by decide)).cell 0
      obtain rfl := hg (by omega)
      have hv : VC n cs es (atG g pre) (idx, f, e, g) W2 := by
        refine ⟨?_, hfe, hen, hK2.rdT hrow3 (by decide) (by decide)⟩
        have := hpx.map (fun p : Pc3 => (p.1, p.2.1, p.2.2, g))
        simpa [atG] using this
      obtain ⟨fn, tmps, assign, body, hy, hR⟩ := HY.out _ (idx, f, e, g) W2 hJ2 hv
      simp only [encsC] at hy
      clear hpx hv
      gi_wp2
      refine ⟨rfl, ?_⟩
      refine (RoundIn.wide hR).mono ?_
      rintro e3 W3 ⟨rfl, hJ3, hR3, hK3⟩
      have hout : Hid (CI J g W0 (pre ++ [(idx, f, e)]) W3 ∧ KC W2 W3 ∧ KeepsOthers W2 W3) := by
        refine ⟨⟨by simpa [atG] using hJ3, hK2.trans hR3⟩, hR3, hK3⟩
      clear hJ3 hR3 hK3
      gi_wp2
      exact hout.out
    case done =>
      rintro D ys W2 hD hS ⟨hJ2, hK2⟩ hK
      have HS := Lib.hid hS
      clear hS
      gi_wp2
      refine ⟨by simp, .inl ⟨_, _, rfl, run_takeDeferred hK, ?_⟩⟩
      refine ⟨_, results_none rfl _ _ _, ⟨_, rfl⟩, _, ⟨g, ?_⟩, HJ.out.putObj _ hJ2 (by omega) hK rfl⟩
      have h := HS.out
      unfold SP at h
      rw [← h]
end Go.Proofs.YtkijckccfookeaaDoor
