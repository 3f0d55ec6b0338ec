/- outline.Contours' function, ranged over; fleuronlaw03.told. -/
import Derived.Test.YtfpdbdbgemolgaaConts
import Derived.Test.YtfpdbdbgemolgaaGrid
namespace Go.Proofs.Ytfpdbdbgemolgaa
open Go.RowKit Go.Shelf
attribute [local go_sem] Oper.semAt_some

/-- what a round may change: the box at ob, and the row that it leads to -/
def Rg (ob : Nat) (W W' : World) : Prop :=
  ∀ v, Boxed W ob 48 v → ∃ v', Boxed W' ob 48 v' ∧ (v'.ownBlock = v.ownBlock ∨ ∃ g, v'.ownBlock = some g ∧ W.heap.size ≤ g) ∧
    (∀ b o, b ≠ ob → some b ≠ v.ownBlock → W.heap[b]? = some o → o.isCells = true → W'.heap[b]? = some o) ∧ W.heap.size ≤ W'.heap.size
theorem Rg.trans {ob : Nat} {A B C : World} (h : Rg ob A B) (k : Rg ob B C) : Rg ob A C := by
  intro v hv
  obtain ⟨v1, h1, h2, h3, h4⟩ := h v hv
  obtain ⟨v2, k1, k2, k3, k4⟩ := k v1 h1
  refine ⟨v2, k1, ?_, fun b o hb hne ho hc => ?_, Nat.le_trans h4 k4⟩
  · rcases k2 with e | ⟨g, e, hg⟩
    · rcases h2 with e' | ⟨g, e', hg⟩
      · exact .inl (e.trans e')
      · exact .inr ⟨g, e.trans e', hg⟩
    · exact .inr ⟨g, e, Nat.le_trans h4 hg⟩
  · have hlt := (Array.getElem?_eq_some_iff.1 ho).1
    refine k3 b o hb ?_ (h3 b o hb hne ho hc) hc
    rcases h2 with e' | ⟨g, e', hg⟩
    · rw [e']; exact hne
    · rw [e']
      intro e
      cases e
      omega
theorem Rg.putObj (ob : Nat) (W : World) (l : Nat) (o o' : Obj) (h : W.heap[l]? = some o) (hc : o.isCells = false) : Rg ob W (W.putObj l o') := by
  intro v hv
  have keep : ∀ (b : Nat) (q : Obj), W.heap[b]? = some q → q.isCells = true → (W.putObj l o').heap[b]? = some q := fun b q hq hqc => by
    have hne : b ≠ l := by
      rintro rfl
      rw [h] at hq
      cases hq
      rw [hc] at hqc
      cases hqc
    exact (World.putObj_heap_other hne).trans hq
  exact ⟨v, keep _ _ hv rfl, .inl rfl, fun b q _ _ hq hqc => keep b q hq hqc, by simp⟩

abbrev Pc4 := Nat × Nat × Nat × Nat
def encsC (x : Pc4) : Array Value := #[.int .i64 (x.1 : Int), .slice (some ⟨x.2.2.2, x.2.1 * 3, none⟩) (x.2.2.1 + 1 - x.2.1) (x.2.2.1 + 1 - x.2.1)]
def SC (n : Nat) (ps : List P3) (es : List Int) (xs : List Pc4) (W : World) : Prop :=
  ∃ g, xs = (pcsF n 0 0 es).map (fun p => (p.1, p.2.1, p.2.2, g)) ∧ (0 < n → RdT W 40 (some ⟨g, 0, none⟩) n 3 (c3s ps))
def SpC (n : Nat) (es : List Int) (xs : List Pc4) : Prop := ∃ g, xs <+: (pcsF n 0 0 es).map (fun p => (p.1, p.2.1, p.2.2, g))
theorem SC.putObj (n : Nat) (ps : List P3) (es : List Int) (xs : List Pc4) (W : World) (l : Nat) (o o' : Obj) (h : SC n ps es xs W) (hl : W.heap[l]? = some o) (hc : o.isCells = false) : SC n ps es xs (W.putObj l o') := by
  obtain ⟨g, h1, h2⟩ := h
  exact ⟨g, h1, fun h0 => (h2 h0).other (grownBy_putObj' W l o') (fun r e => by cases e; exact ⟨o, hl, hc⟩)⟩

theorem own_rdT {w : World} {base n size c : Nat} {e : TypeId} {A : Option Addr} {xs : List Value} (h : w.ownsRow base e size (.slice A n c) n xs) : RdT w e A n size xs := by
  refine ⟨h.1, fun hn => ?_⟩
  rcases h.2 with ⟨h1, _⟩ | ⟨g, cap, cur, h1, _, hh, _, _, _, htk⟩
  · simp only [Value.slice.injEq] at h1
    omega
  · simp only [Value.slice.injEq, true_and] at h1
    obtain ⟨rfl, rfl⟩ := h1
    refine ⟨g, 0, cur, rfl, hh, fun j u hu => ?_⟩
    rw [← htk, List.getElem?_take] at hu
    split at hu
    · rw [Nat.zero_add, ← Array.getElem?_toList]
      exact hu
    · cases hu
/-- between two rounds of the inner loop -/
def CI {len : Nat} (J : List Pc4 → World → Prop) (ob g : Nat) (T : Nat → Prop) (W0 : World) (pre : List (Pc len)) (W : World) : Prop :=
  J (pre.map fun x => (x.1.1, x.1.2.1, x.1.2.2, g)) W ∧ (∃ v, Boxed W ob 48 v ∧ ∀ b, T b → b ≠ ob ∧ some b ≠ v.ownBlock) ∧ KeepT T W0 W ∧ W0.heap.size ≤ W.heap.size
theorem ci_own {len : Nat} {J : List Pc4 → World → Prop} {ob g B B' : Nat} {T : Nat → Prop} {W0 : World} (hJ : OwnFrom B J) (hB : B ≤ B') : OwnFrom B' (CI (len := len) J ob g T W0) := by
  intro s A C row hs hg hr
  obtain ⟨h1, ⟨v, h2, h3⟩, h4, h5⟩ := hs
  have hr' : ∀ r, row = some r → ∃ o : Obj, A.heap[r]? = some o ∧ o.isCells = false := fun r e => (hr r e).2
  refine ⟨hJ _ A C row h1 hg (fun r e => ⟨Nat.le_trans hB (hr r e).1, (hr r e).2⟩), ⟨v, (grownBy_keeps_cells hg hr' h2 rfl).trans h2, h3⟩, fun b hb o ho hc => ?_, Nat.le_trans h5 hg.size⟩
  exact (grownBy_keeps_cells hg hr' (h4 b hb o ho hc) hc).trans (h4 b hb o ho hc)

set_option maxRecDepth 100000 in
set_option maxHeartbeats 4000000 in
theorem cont_gives (w : World) (n m pb eb ob cv cu : Nat) (Av Eu : Option Addr) (v0 : Value) (ps : List P3) (es : List Int) (hP : Bk w pb 22 #[.slice Av n cv]) (hrow : Rd w w.heap.size Av n 3 (c3s ps)) (hQ : Bk w eb 23 #[.slice Eu m cu]) (hEr : Rd w w.heap.size Eu m 1 (cIs es))
    (hob : Boxed w ob 48 v0) (hT0 : ∀ b o, Eu = some ⟨b, o, none⟩ → b ≠ ob ∧ some b ≠ v0.ownBlock ∧ b < w.heap.size) (hv0 : ∀ b, v0.ownBlock = some b → b < w.heap.size) (hn : n ≤ 100000) (hm : m ≤ 100000) :
    Gives Try.prog 53 #[.pointer (some ⟨pb, 0, none⟩), .pointer (some ⟨eb, 0, none⟩)] encsC (Rg ob) (SC n ps es) (SpC n es) m w := by
  intro l k J Bx W hk hl hW hJ hY h0
  have hP1 := hP.below hW
  have hQ1 := hQ.below hW
  have hr1 := hrow.below hW (Nat.le_refl _)
  have hE1 := hEr.below hW (Nat.le_refl _)
  have hob1 : Boxed W ob 48 v0 := (hW.block _ hob.lt).trans hob
  have hs1 := hW.size
  have p0 : W.cell? ⟨pb, 0, none⟩ = some (.slice Av n cv) := hP1.cell 0
  have e0 : W.cell? ⟨eb, 0, none⟩ = some (.slice Eu m cu) := hQ1.cell 0
  have zp := hP1.lt
  have ze := hQ1.lt
  have Hob := Lib.hid hob.lt
  clear hP hQ hrow hEr
  refine callsIn_of_wp_marks Try.func53 rfl trivial ?_ rfl
  simp only [Try.ntmps53, List.size_toArray, List.length_cons, List.length_nil, Nat.reduceAdd, Nat.reduceSub, Array.replicate_succ, Array.replicate_zero, List.push_toArray, List.append_toArray, List.nil_append, List.cons_append]
  gi_wp2_with fail
  gi_region_with (first
    | (refine ⟨trivial, fun _ => Nat.le_trans (by decide) hk, ?_⟩; gi_at_call 35; refine (callsIn_wide.2 (clone3 _ w.heap.size Av n cv ps ((hr1.alloc (by omega) _).drew) (by simp; omega) (by omega))).mono ?_; rintro e w1 ⟨v, rfl, hown, hb1d⟩; have hb1 := unDrew hb1d; have e1 := cellB hb1 (cellA _ e0); obtain ⟨A1, c1, rfl, -⟩ := Rd.of_own hown)
    | (refine ⟨trivial, fun _ => Nat.le_trans (by decide) hk, ?_⟩; gi_at_call 38; refine (callsIn_wide.2 (pieces3_call A1 Eu n c1 m cu w1)).mono ?_; rintro e w' ⟨rfl, rfl⟩))
  all_goals
    obtain ⟨g, hg⟩ : ∃ g, 0 < n → A1 = some ⟨g, 0, none⟩ := by
      by_cases h : 0 < n
      · obtain ⟨g, cap, hv, _, _⟩ := hown.form h
        simp only [Value.slice.injEq, true_and] at hv
        exact ⟨g, fun _ => hv.1⟩
      · exact ⟨0, fun h' => absurd h' h⟩
    have hcap := own_caps hown
    obtain ⟨Aw, cw, ew, hrd⟩ := Rd.of_own hown
    simp only [Value.slice.injEq, true_and] at ew
    obtain ⟨rfl, rfl⟩ := ew
    have hY1 : Bk w1 W.heap.size 76 #[.func (.yield l) #[] #[]] := (bk1 W (.func (.yield l) #[] #[]) 76).below hb1
    have hs2 := hY1.lt
    have hob2 : Boxed w1 ob 48 v0 := (hb1.block _ (by have := hob1.lt; simp; omega)).trans (Below.heap_alloc _ _ _ hob1.lt |>.trans hob1)
    have hE2 := ((hE1.alloc hs1 _).below hb1 (by simp; omega))
    have hlow : Hid (∀ b o, A1 = some ⟨b, o, none⟩ → 0 < n → W.heap.size + 1 ≤ b ∧ b < w1.heap.size) := fun b o e h0 => by
      have h1 := hown.lt b (by rw [e]; rfl)
      simp at h1
      exact h1
    gi_wp2_with fail
    obtain ⟨W0, hW0⟩ : ∃ W0, (w1.alloc (.cells #[.slice A1 n c1] 22)).alloc (.cells #[.slice Eu m cu] 23) = W0 := ⟨_, rfl⟩
    have hz0 : W0.heap.size = w1.heap.size + 2 := by rw [← hW0]; simp
    have hb0 : Below w1.heap.size w1 W0 := by rw [← hW0]; exact ((Below.refl _ _).alloc (Nat.le_refl _) _).alloc (by simp) _
    have hcr : W0.cell? ⟨w1.heap.size, 0, none⟩ = some (.slice A1 n c1) := by rw [← hW0]; simp [go_sem]
    have hce : W0.cell? ⟨w1.heap.size + 1, 0, none⟩ = some (.slice Eu m cu) := by rw [← hW0]; simp [go_sem]
    have hob3 : Boxed W0 ob 48 v0 := (hb0.block _ hob2.lt).trans hob2
    have hE3 := hE2.below hb0 (by have := hb1.size; simp at this; omega)
    have hY3 := hY1.below hb0
    have hJ0 : J [] W0 := by
      have a1 := hJ.alloc (.cells #[.func (.yield l) #[] #[]] 76) h0
      have a2 : J [] w1 := hJ [] _ w1 none a1 (only_of_below hb1 none) (fun r e => by cases e)
      exact hJ [] _ W0 none a2 (only_of_below hb0 none) (fun r e => by cases e)
    rw [hW0]
    obtain ⟨T, hT⟩ : ∃ T : Nat → Prop, T = fun b => b = W.heap.size ∨ b = w1.heap.size ∨ b = w1.heap.size + 1 ∨ (∃ o, Eu = some ⟨b, o, none⟩) ∨ (0 < n ∧ ∃ o, A1 = some ⟨b, o, none⟩) := ⟨_, rfl⟩
    have hTy : T W.heap.size := by rw [hT]; exact .inl rfl
    have hTr : T w1.heap.size := by rw [hT]; exact .inr (.inl rfl)
    have hTe : T (w1.heap.size + 1) := by rw [hT]; exact .inr (.inr (.inl rfl))
    have hTE : ∀ b o, Eu = some ⟨b, o, none⟩ → T b := fun b o e => by rw [hT]; exact .inr (.inr (.inr (.inl ⟨o, e⟩)))
    have hTA : ∀ b o, 0 < n → A1 = some ⟨b, o, none⟩ → T b := fun b o h e => by rw [hT]; exact .inr (.inr (.inr (.inr ⟨h, o, e⟩)))
    have hTF : Hid (∀ b, T b → (b ≠ ob ∧ some b ≠ v0.ownBlock) ∧ b < W0.heap.size) := by
      intro b hb
      rw [hT] at hb
      have ho := Hob.out
      have hnew : w.heap.size ≤ b → b ≠ ob ∧ some b ≠ v0.ownBlock := fun h => ⟨by omega, fun e => by have := hv0 b e.symm; omega⟩
      rcases hb with rfl | rfl | rfl | ⟨o, e⟩ | ⟨h0, o, e⟩
      · exact ⟨hnew (by omega), by omega⟩
      · exact ⟨hnew (by omega), by omega⟩
      · exact ⟨hnew (by omega), by omega⟩
      · obtain ⟨a1, a2, a3⟩ := hT0 b o e
        exact ⟨⟨a1, a2⟩, by omega⟩
      · obtain ⟨a1, a2⟩ := hlow.out b o e h0
        exact ⟨hnew (by omega), by omega⟩
    clear hT hW0
    have hyc : ∀ W2, KeepT T W0 W2 → W2.cell? ⟨W.heap.size, 0, none⟩ = some (.func (.yield l) #[] #[]) := fun W2 h => h.cell (p := ⟨W.heap.size, 0, none⟩) hTy (hY3.cell 0)
    have Hyc := Lib.hid hyc
    have HY := Lib.hid hY
    have HJ := Lib.hid hJ
    clear hyc hY hJ
    refine wpIn_rangeFunc_ownG rfl (by omega) (gf := 47) (lb := #[.pointer (some ⟨w1.heap.size + 1, 0, none⟩), .pointer (some ⟨w1.heap.size, 0, none⟩)]) rfl trivial (enters_of Try.func47 (by kernel_rfl) rfl)
      (pieces3_stopsT (k - 1) (by omega) _ _ g 0 n c1 m cu w.heap.size A1 Eu es T hTE hTe hTr hg hcap.1 hcap.2 (by omega) W0 (by omega) hE3 hce hcr)
      (fun h k => h.trans k) (fun W l o o' _ h hc _ => KeepT.put W l o o' h hc) (Below.refl _ _) (fun _ => rfl)
      (CI J ob g T W0)
      (fun c pre _ => c = .ret ∧ Bx (pre.map fun x => (x.1.1, x.1.2.1, x.1.2.2, g)))
      (ci_own HJ.out (by omega))
      (fun c s A B row h _ _ => (show c = .ret ∧ Bx (s.map fun x => (x.1.1, x.1.2.1, x.1.2.2, g)) from h))
      ⟨hJ0, ⟨v0, hob3, fun b hb => (hTF.out b hb).1⟩, KeepT.refl _ _, Nat.le_refl _⟩
      (fun x => { tmps := #[.func (.yield l) #[] #[], .pointer (some ⟨pb, 0, none⟩), .pointer (some ⟨eb, 0, none⟩), .pointer (some ⟨W.heap.size, 0, none⟩), .int .i64 (x.1.1 : Int), .slice (some ⟨g, x.1.2.1 * 3, none⟩) (x.1.2.2 + 1 - x.1.2.1) (x.1.2.2 + 1 - x.1.2.1), .slice Av n cv, .slice A1 n c1, .slice Eu m cu, .func (.func 47) #[] #[.pointer (some ⟨w1.heap.size + 1, 0, none⟩), .pointer (some ⟨w1.heap.size, 0, none⟩)], .int .i64 (x.1.1 : Int), .slice (some ⟨g, x.1.2.1 * 3, none⟩) (x.1.2.2 + 1 - x.1.2.1) (x.1.2.2 + 1 - x.1.2.1), undef, undef, undef, undef, undef], defers := [] }) ?assign ?body ?done ?stop
    case assign =>
      intro l2 x W2 K hK
      gi_wp2
      exact hK
    case body =>
      rintro l2 pre ⟨⟨idx, f, e⟩, hfe, hen⟩ W2 ⟨hJ2, ⟨v2, hv2, hT2⟩, hK2, hs22⟩ hlen
      dsimp only at hfe hen ⊢
      have hyc2 := Hyc.out W2 hK2
      have HT2 := Lib.hid hT2
      obtain ⟨fn, tmps, assign, body, hy, hR⟩ := HY.out _ (idx, f, e, g) W2 hJ2 (by simpa using hlen)
      simp only [encsC] at hy
      clear hT2
      gi_wp2
      refine ⟨fun h => (by cases h), ?_⟩
      refine (RoundIn.wide hR).mono ?_
      rintro e3 W3 (⟨rfl, hJ3, hR3, hK3⟩ | ⟨rfl, hB3, hs3, hK3⟩)
      rotate_left
      · have hout : Hid (KeepsFrom W0.heap.size W2 W3 ∧ (Code.ret = .ret ∧ Bx ((pre ++ [(⟨(idx, f, e), hfe, hen⟩ : Pc n)]).map fun x => (x.1.1, x.1.2.1, x.1.2.2, g)))) := by
          refine ⟨⟨hs3, fun j o hj ho hc => hK3 j o (by omega) ho hc⟩, rfl, ?_⟩
          simpa using hB3
        clear hB3 hK3
        gi_wp2
        exact ⟨hout.out.1, rfl, hout.out.2.2⟩
      obtain ⟨v3, hv3, hvb, hkeep, hs3⟩ := hR3 v2 hv2
      have hout : Hid (KeepsFrom W0.heap.size W2 W3 ∧ KeepT T W2 W3 ∧ CI J ob g T W0 (pre ++ [(⟨(idx, f, e), hfe, hen⟩ : Pc n)]) W3) := by
        have hk2 : KeepT T W2 W3 := fun b hb o ho hc => hkeep b o (HT2.out b hb).1 (HT2.out b hb).2 ho hc
        refine ⟨hK3.from _, hk2, by simpa using hJ3, ⟨v3, hv3, fun b hb => ⟨(HT2.out b hb).1, ?_⟩⟩, hK2.trans hk2, Nat.le_trans hs22 hs3⟩
        rcases hvb with e' | ⟨gg, e', hgg⟩
        · rw [e']
          exact (HT2.out b hb).2
        · rw [e']
          intro e4
          injection e4 with e4
          have := (hTF.out b hb).2
          omega
      clear hJ3 hR3 hK3 hv3 hvb hkeep
      gi_wp2
      exact hout.out
    case done =>
      rintro D ys W2 hD hS ⟨hJ2, -, hK2, hs22⟩ hK
      have HS := Lib.hid hS
      clear hS
      gi_wp2
      refine ⟨by simp, .inl ⟨_, _, rfl, run_takeDeferred hK, ?_⟩⟩
      refine ⟨_, results_none rfl _ _ _, ⟨_, rfl⟩, .inl ⟨_, ⟨g, ?_, fun h0 => ?_⟩, HJ.out.putObj _ hJ2 (by omega) hK rfl⟩⟩
      · rw [← HS.out, List.map_map]
        rfl
      · obtain rfl := hg h0
        have a1 : RdT w1 40 (some ⟨g, 0, none⟩) n 3 (c3s ps) := own_rdT hown
        have a2 := a1.below hb0
        have a3 : RdT W2 40 (some ⟨g, 0, none⟩) n 3 (c3s ps) := ⟨a2.1, fun hn' => by
          obtain ⟨b, o, cur, e, hb, hc⟩ := a2.2 hn'
          have e' := e
          simp only [Option.some.injEq, Addr.mk.injEq, and_true] at e'
          obtain ⟨rfl, rfl⟩ := e'
          exact ⟨_, _, cur, rfl, hK2 _ (hTA _ _ h0 rfl) _ hb rfl, hc⟩⟩
        exact a3.other (grownBy_putObj' W2 D _) (fun q hq => by cases hq; exact ⟨_, hK, rfl⟩)
    case stop =>
      rintro D c pre W2 hD hSp ⟨rfl, hbx⟩ hK
      have HSp := Lib.hid hSp
      have Hbx := Lib.hid hbx
      clear hSp hbx
      gi_wp2
      refine ⟨by simp, .inl ⟨_, _, rfl, run_takeDeferred hK, ?_⟩⟩
      refine ⟨_, results_none rfl _ _ _, ⟨_, rfl⟩, .inr ⟨_, ⟨g, ?_⟩, Hbx.out⟩⟩
      have h1 := HSp.out.map (fun p : Nat × Nat × Nat => (p.1, p.2.1, p.2.2, g))
      rw [List.map_map] at h1
      exact h1
end Go.Proofs.Ytfpdbdbgemolgaa
