/- parse: one thing more of the last glyph. Printed by gen_pagl.py. -/
import Derived.Test.YtkijckccfookeaaGreatDoorM14
namespace Go.Proofs.YtkijckccfookeaaGreatDoor
open Go.RowKit

theorem FD.tr' {w w' : World} {rv rv0 rv' : Rows} {f : Fnt} (h : FD w (Fz w rv0) rv f) (t : Tr w rv0 w' rv') : FD w' (Fz w' rv') rv f :=
  ⟨h.unit, h.gly.tr t, h.chr.tr ChrR.ok t, h.lks.tr t, h.fts.tr FeatureR.ok t, h.axs.tr AxisR.ok t, h.rgs.tr RegionR.ok t, h.fns.tr CodeR.ok t, h.cvt.tr IntR.ok t⟩
section
variable {w w2 : World} {Bd p gm cm : Nat} {gl : Gl} {s : PS} {rv : Rows} {K : Nat}
/-- the last glyph's cells -/
theorem PSt.glyph_cells (h : PSt w Bd p gm cm gl s rv K) {init : List Glyph} {g : Glyph} (hs : s.f.glyphs = init ++ [g]) :
    ∃ G c0 ci, (rv 0).v = .slice (some ⟨G, 0, none⟩) (init.length + 1) c0 ∧ (rv 0).xs = ci ++ [.string ⟨g.name.toArray⟩, .int .i64 g.advance, .bool g.mark, (rv 8).v, (rv 9).v, (rv 10).v, (rv 11).v, (rv 12).v, (rv 13).v] ∧ ci.length = init.length * 9 ∧ G < w.heap.size ∧
      (∀ j, j < 9 → w.cell? ⟨G, init.length * 9 + j, none⟩ = [Value.string ⟨g.name.toArray⟩, .int .i64 g.advance, .bool g.mark, (rv 8).v, (rv 9).v, (rv 10).v, (rv 11).v, (rv 12).v, (rv 13).v][j]?) ∧ (∀ j, w.frozen? ⟨G, j, none⟩ = false) ∧ (∃ cur, Bk w G 59 cur) := by
  have hn := h.fnt.gly.1
  have ho := h.live.own 0 (by decide)
  rcases h.fnt.gly.2 with ⟨e, _⟩ | ⟨init', g', ci, e1, e2, e3, e4, -⟩
  · rw [hs] at e; simp at e
  · rw [hs] at e1
    obtain ⟨rfl, e1⟩ := List.append_inj' e1 rfl
    obtain rfl : g = g' := by simpa using e1
    have hl := e4.1
    have hn2 : (rv 0).n = init.length + 1 := by rw [hn, hs]; simp
    rcases ho.2 with ⟨_, h2⟩ | ⟨G, cap, cur, h1, hb, hh, hnc, hm, hsz, htk⟩
    · omega
    · rw [hn2] at h1
      refine ⟨G, cap, ci, h1, e2, hl, (Array.getElem?_eq_some_iff.1 hh).1, fun j hj => ?_, fun j => Bk.frozen hh j, ⟨cur, hh⟩⟩
      rw [Bk.cell hh]
      have hlt : init.length * 9 + j < (rv 0).n * kS 0 := by rw [hn2]; show _ < (init.length + 1) * 9; omega
      have : (cur.toList.take ((rv 0).n * kS 0))[init.length * 9 + j]? = cur.toList[init.length * 9 + j]? := by rw [List.getElem?_take, if_pos hlt]
      rw [← Array.getElem?_toList, ← this, htk, e2, List.getElem?_append_right (by rw [hl]; omega), hl, Nat.add_sub_cancel_left]
theorem set_last (ci : List Value) (k off : Nat) (l : List Value) (v : Value) (hk : ci.length = k) : (ci ++ l).set (k + off) v = ci ++ l.set off v := by
  subst hk
  rw [List.set_append_right _ _ (by omega), Nat.add_sub_cancel_left]
set_option maxHeartbeats 1000000 in
theorem PSt.more_pts (h : PSt w Bd p gm cm gl s rv K) {init : List Glyph} {g : Glyph} (hs : s.f.glyphs = init ++ [g]) {G n0 c0 : Nat} (h0 : (rv 0).v = .slice (some ⟨G, 0, none⟩) n0 c0) {v' : Value} {m : Nat} {cs : List Value} {ys : List Pt} (hg : w.grownBy w2 (rv 8).v.ownBlock) (ho : w2.ownsRow Bd (kT 8) (kS 8) v' ((rv 8).n + m) ((rv 8).xs ++ cs)) (hl : Loc w (rv 8).v v')
    (hm : m = ys.length) (hf : Fl PtR 3 w (Fz w rv) cs ys) {K' : Nat} (hK : K + m ≤ K') :
    ∃ rv', PSt (w2.setCell ⟨G, init.length * 9 + 3, none⟩ v') Bd p gm cm gl { s with f := { s.f with glyphs := init ++ [{ g with points := g.points ++ ys }] } } rv' K' ∧ KQ cm w (w2.setCell ⟨G, init.length * 9 + 3, none⟩ v') ∧ Below Bd w (w2.setCell ⟨G, init.length * 9 + 3, none⟩ v') ∧ (rv' 0).v = (rv 0).v := by
  have ht : Tr w rv w2 (upd rv 8 ⟨v', (rv 8).n + m, (rv 8).xs ++ cs⟩) := Tr.row (by decide) hg hl
  obtain ⟨a1, a2, -, a4, a5⟩ := h.row (i := 8) (by decide) (r := ⟨v', (rv 8).n + m, (rv 8).xs ++ cs⟩) hg ho hl
  have k0 : (upd rv 8 ⟨v', (rv 8).n + m, (rv 8).xs ++ cs⟩) 0 = rv 0 := rfl
  have ho0 := a2.own 0 (by decide)
  rw [k0, h0] at ho0
  have hn0 : n0 = (rv 0).n := by
    obtain ⟨A9, c9, e⟩ := own_slice (h.live.own 0 (by decide))
    rw [h0] at e
    simp only [Value.slice.injEq] at e
    exact e.2.1
  have hos := own_set (hn0 ▸ ho0) (init.length * 9 + 3) v'
  rw [hn0] at h0
  have hown0 : (Value.slice (some ⟨G, 0, none⟩) (rv 0).n c0).ownBlock = some G := rfl
  have hg2 : w2.grownBy (w2.setCell ⟨G, init.length * 9 + 3, none⟩ v') ((upd rv 8 ⟨v', (rv 8).n + m, (rv 8).xs ++ cs⟩) 0).v.ownBlock := by rw [k0, h0, hown0]; exact grown_set w2 ⟨G, _, none⟩ v'
  rw [← h0] at hos
  have hl2 : Loc w2 ((upd rv 8 ⟨v', (rv 8).n + m, (rv 8).xs ++ cs⟩) 0).v (rv 0).v := .inl rfl
  have b2 := a2.row (i := 0) (by decide) (r := ⟨(rv 0).v, (rv 0).n, (rv 0).xs.set (init.length * 9 + 3) v'⟩) hg2 hos hl2
  have ht2 : Tr w2 (upd rv 8 ⟨v', (rv 8).n + m, (rv 8).xs ++ cs⟩) (w2.setCell ⟨G, init.length * 9 + 3, none⟩ v') (upd (upd rv 8 ⟨v', (rv 8).n + m, (rv 8).xs ++ cs⟩) 0 ⟨(rv 0).v, (rv 0).n, (rv 0).xs.set (init.length * 9 + 3) v'⟩) := Tr.row (by decide) hg2 hl2
  have f2 := (h.fnt.tr ht).tr' ht2
  have hGp : G ≠ p := fun e => by
    obtain ⟨cur, hb⟩ := ownBlock_bk (h.live.own 0 (by decide)) (g := G) (by rw [h0]; rfl)
    subst e
    have := (bk_one hb h.par).1
    revert this
    decide
  have hGk : ∀ b es c, w2.heap[b]? = some (Obj.map es c) → b ≠ G := fun b es c hb e => by
    subst e
    obtain ⟨cur, hk⟩ := ownBlock_bk ho0 (g := b) rfl
    unfold Bk at hk
    rw [hb] at hk
    cases hk
  obtain ⟨e1, c1, m1⟩ := a4.isMap
  obtain ⟨ff, q1, q2⟩ := a5
  obtain ⟨e2, c2, m2⟩ := q1.isMap
  refine ⟨upd (upd rv 8 ⟨v', (rv 8).n + m, (rv 8).xs ++ cs⟩) 0 ⟨(rv 0).v, (rv 0).n, (rv 0).xs.set (init.length * 9 + 3) v'⟩, ?_, ?_, ?_, rfl⟩
  · refine { par := ?_, live := b2, fnt := ⟨f2.unit, ?_, f2.chr, f2.lks, f2.fts, f2.axs, f2.rgs, f2.fns, f2.cvt⟩, gmp := a4.keep (Below.heap_setCell _ _ _ _ (hGk _ _ _ m1)), glI := h.glI, cls := ClsD.tr ⟨ff, q1, q2⟩ ht2 (Below.heap_setCell _ _ _ _ (hGk _ _ _ m2)), few := few_upd (few_upd h.few (Nat.le_trans (Nat.le_add_right _ _) hK) (Nat.le_trans (Nat.add_le_add_right (h.few 8 (by decide)) m) hK)) (Nat.le_refl _) (Nat.le_trans (h.few 0 (by decide)) (Nat.le_trans (Nat.le_add_right _ _) hK)), low := h.low }
    · exact Bk.far a1 (fun e => hGp e.symm) _
    · obtain ⟨g1, g2⟩ := h.fnt.gly
      refine ⟨by show (rv 0).n = _; rw [g1, hs]; simp, .inr ?_⟩
      rcases g2 with ⟨e, _⟩ | ⟨init', g', ci, e1, e2, h3, h4, h5, h6, h7, h8, h9, h10⟩
      · rw [hs] at e; simp at e
      · rw [hs] at e1
        obtain ⟨rfl, e1⟩ := List.append_inj' e1 rfl
        obtain rfl : g = g' := by simpa using e1
        refine ⟨init, _, ci, rfl, ?_, h3, ht2.fl GlyphR.ok (ht.fl GlyphR.ok h4), ((h5.tr PtR.ok ht).app rfl hm (ht.fl PtR.ok hf)).tr PtR.ok ht2, (h6.tr IntR.ok ht).tr IntR.ok ht2, (h7.tr PartR.ok ht).tr PartR.ok ht2, (h8.tr AnchorR.ok ht).tr AnchorR.ok ht2, (h9.tr DeltaR.ok ht).tr DeltaR.ok ht2, (h10.tr InsR.ok ht).tr InsR.ok ht2⟩
        show (rv 0).xs.set (init.length * 9 + 3) v' = _
        rw [e2, set_last ci _ 3 _ _ h4.1]
        rfl
  · exact (KQ.live h.live (i := 8) (by decide) hg).trans (KQ.live a2 (i := 0) (by decide) hg2)
  · refine ((Below.refl Bd w).grown hg h.size (fun g e => ((h.live.own 8 (by decide)).lt g e).1)).setCell ?_ _
    exact ((h.live.own 0 (by decide)).lt G (by rw [h0]; rfl)).1
set_option maxHeartbeats 1000000 in
theorem PSt.more_ens (h : PSt w Bd p gm cm gl s rv K) {init : List Glyph} {g : Glyph} (hs : s.f.glyphs = init ++ [g]) {G n0 c0 : Nat} (h0 : (rv 0).v = .slice (some ⟨G, 0, none⟩) n0 c0) {v' : Value} {m : Nat} {cs : List Value} {ys : List Int} (hg : w.grownBy w2 (rv 9).v.ownBlock) (ho : w2.ownsRow Bd (kT 9) (kS 9) v' ((rv 9).n + m) ((rv 9).xs ++ cs)) (hl : Loc w (rv 9).v v')
    (hm : m = ys.length) (hf : Fl IntR 1 w (Fz w rv) cs ys) {K' : Nat} (hK : K + m ≤ K') :
    ∃ rv', PSt (w2.setCell ⟨G, init.length * 9 + 4, none⟩ v') Bd p gm cm gl { s with f := { s.f with glyphs := init ++ [{ g with ends := g.ends ++ ys }] } } rv' K' ∧ KQ cm w (w2.setCell ⟨G, init.length * 9 + 4, none⟩ v') ∧ Below Bd w (w2.setCell ⟨G, init.length * 9 + 4, none⟩ v') ∧ (rv' 0).v = (rv 0).v := by
  have ht : Tr w rv w2 (upd rv 9 ⟨v', (rv 9).n + m, (rv 9).xs ++ cs⟩) := Tr.row (by decide) hg hl
  obtain ⟨a1, a2, -, a4, a5⟩ := h.row (i := 9) (by decide) (r := ⟨v', (rv 9).n + m, (rv 9).xs ++ cs⟩) hg ho hl
  have k0 : (upd rv 9 ⟨v', (rv 9).n + m, (rv 9).xs ++ cs⟩) 0 = rv 0 := rfl
  have ho0 := a2.own 0 (by decide)
  rw [k0, h0] at ho0
  have hn0 : n0 = (rv 0).n := by
    obtain ⟨A9, c9, e⟩ := own_slice (h.live.own 0 (by decide))
    rw [h0] at e
    simp only [Value.slice.injEq] at e
    exact e.2.1
  have hos := own_set (hn0 ▸ ho0) (init.length * 9 + 4) v'
  rw [hn0] at h0
  have hown0 : (Value.slice (some ⟨G, 0, none⟩) (rv 0).n c0).ownBlock = some G := rfl
  have hg2 : w2.grownBy (w2.setCell ⟨G, init.length * 9 + 4, none⟩ v') ((upd rv 9 ⟨v', (rv 9).n + m, (rv 9).xs ++ cs⟩) 0).v.ownBlock := by rw [k0, h0, hown0]; exact grown_set w2 ⟨G, _, none⟩ v'
  rw [← h0] at hos
  have hl2 : Loc w2 ((upd rv 9 ⟨v', (rv 9).n + m, (rv 9).xs ++ cs⟩) 0).v (rv 0).v := .inl rfl
  have b2 := a2.row (i := 0) (by decide) (r := ⟨(rv 0).v, (rv 0).n, (rv 0).xs.set (init.length * 9 + 4) v'⟩) hg2 hos hl2
  have ht2 : Tr w2 (upd rv 9 ⟨v', (rv 9).n + m, (rv 9).xs ++ cs⟩) (w2.setCell ⟨G, init.length * 9 + 4, none⟩ v') (upd (upd rv 9 ⟨v', (rv 9).n + m, (rv 9).xs ++ cs⟩) 0 ⟨(rv 0).v, (rv 0).n, (rv 0).xs.set (init.length * 9 + 4) v'⟩) := Tr.row (by decide) hg2 hl2
  have f2 := (h.fnt.tr ht).tr' ht2
  have hGp : G ≠ p := fun e => by
    obtain ⟨cur, hb⟩ := ownBlock_bk (h.live.own 0 (by decide)) (g := G) (by rw [h0]; rfl)
    subst e
    have := (bk_one hb h.par).1
    revert this
    decide
  have hGk : ∀ b es c, w2.heap[b]? = some (Obj.map es c) → b ≠ G := fun b es c hb e => by
    subst e
    obtain ⟨cur, hk⟩ := ownBlock_bk ho0 (g := b) rfl
    unfold Bk at hk
    rw [hb] at hk
    cases hk
  obtain ⟨e1, c1, m1⟩ := a4.isMap
  obtain ⟨ff, q1, q2⟩ := a5
  obtain ⟨e2, c2, m2⟩ := q1.isMap
  refine ⟨upd (upd rv 9 ⟨v', (rv 9).n + m, (rv 9).xs ++ cs⟩) 0 ⟨(rv 0).v, (rv 0).n, (rv 0).xs.set (init.length * 9 + 4) v'⟩, ?_, ?_, ?_, rfl⟩
  · refine { par := ?_, live := b2, fnt := ⟨f2.unit, ?_, f2.chr, f2.lks, f2.fts, f2.axs, f2.rgs, f2.fns, f2.cvt⟩, gmp := a4.keep (Below.heap_setCell _ _ _ _ (hGk _ _ _ m1)), glI := h.glI, cls := ClsD.tr ⟨ff, q1, q2⟩ ht2 (Below.heap_setCell _ _ _ _ (hGk _ _ _ m2)), few := few_upd (few_upd h.few (Nat.le_trans (Nat.le_add_right _ _) hK) (Nat.le_trans (Nat.add_le_add_right (h.few 9 (by decide)) m) hK)) (Nat.le_refl _) (Nat.le_trans (h.few 0 (by decide)) (Nat.le_trans (Nat.le_add_right _ _) hK)), low := h.low }
    · exact Bk.far a1 (fun e => hGp e.symm) _
    · obtain ⟨g1, g2⟩ := h.fnt.gly
      refine ⟨by show (rv 0).n = _; rw [g1, hs]; simp, .inr ?_⟩
      rcases g2 with ⟨e, _⟩ | ⟨init', g', ci, e1, e2, h3, h4, h5, h6, h7, h8, h9, h10⟩
      · rw [hs] at e; simp at e
      · rw [hs] at e1
        obtain ⟨rfl, e1⟩ := List.append_inj' e1 rfl
        obtain rfl : g = g' := by simpa using e1
        refine ⟨init, _, ci, rfl, ?_, h3, ht2.fl GlyphR.ok (ht.fl GlyphR.ok h4), (h5.tr PtR.ok ht).tr PtR.ok ht2, ((h6.tr IntR.ok ht).app rfl hm (ht.fl IntR.ok hf)).tr IntR.ok ht2, (h7.tr PartR.ok ht).tr PartR.ok ht2, (h8.tr AnchorR.ok ht).tr AnchorR.ok ht2, (h9.tr DeltaR.ok ht).tr DeltaR.ok ht2, (h10.tr InsR.ok ht).tr InsR.ok ht2⟩
        show (rv 0).xs.set (init.length * 9 + 4) v' = _
        rw [e2, set_last ci _ 4 _ _ h4.1]
        rfl
  · exact (KQ.live h.live (i := 9) (by decide) hg).trans (KQ.live a2 (i := 0) (by decide) hg2)
  · refine ((Below.refl Bd w).grown hg h.size (fun g e => ((h.live.own 9 (by decide)).lt g e).1)).setCell ?_ _
    exact ((h.live.own 0 (by decide)).lt G (by rw [h0]; rfl)).1
set_option maxHeartbeats 1000000 in
theorem PSt.more_pas (h : PSt w Bd p gm cm gl s rv K) {init : List Glyph} {g : Glyph} (hs : s.f.glyphs = init ++ [g]) {G n0 c0 : Nat} (h0 : (rv 0).v = .slice (some ⟨G, 0, none⟩) n0 c0) {v' : Value} {m : Nat} {cs : List Value} {ys : List Part} (hg : w.grownBy w2 (rv 10).v.ownBlock) (ho : w2.ownsRow Bd (kT 10) (kS 10) v' ((rv 10).n + m) ((rv 10).xs ++ cs)) (hl : Loc w (rv 10).v v')
    (hm : m = ys.length) (hf : Fl PartR 3 w (Fz w rv) cs ys) {K' : Nat} (hK : K + m ≤ K') :
    ∃ rv', PSt (w2.setCell ⟨G, init.length * 9 + 5, none⟩ v') Bd p gm cm gl { s with f := { s.f with glyphs := init ++ [{ g with parts := g.parts ++ ys }] } } rv' K' ∧ KQ cm w (w2.setCell ⟨G, init.length * 9 + 5, none⟩ v') ∧ Below Bd w (w2.setCell ⟨G, init.length * 9 + 5, none⟩ v') ∧ (rv' 0).v = (rv 0).v := by
  have ht : Tr w rv w2 (upd rv 10 ⟨v', (rv 10).n + m, (rv 10).xs ++ cs⟩) := Tr.row (by decide) hg hl
  obtain ⟨a1, a2, -, a4, a5⟩ := h.row (i := 10) (by decide) (r := ⟨v', (rv 10).n + m, (rv 10).xs ++ cs⟩) hg ho hl
  have k0 : (upd rv 10 ⟨v', (rv 10).n + m, (rv 10).xs ++ cs⟩) 0 = rv 0 := rfl
  have ho0 := a2.own 0 (by decide)
  rw [k0, h0] at ho0
  have hn0 : n0 = (rv 0).n := by
    obtain ⟨A9, c9, e⟩ := own_slice (h.live.own 0 (by decide))
    rw [h0] at e
    simp only [Value.slice.injEq] at e
    exact e.2.1
  have hos := own_set (hn0 ▸ ho0) (init.length * 9 + 5) v'
  rw [hn0] at h0
  have hown0 : (Value.slice (some ⟨G, 0, none⟩) (rv 0).n c0).ownBlock = some G := rfl
  have hg2 : w2.grownBy (w2.setCell ⟨G, init.length * 9 + 5, none⟩ v') ((upd rv 10 ⟨v', (rv 10).n + m, (rv 10).xs ++ cs⟩) 0).v.ownBlock := by rw [k0, h0, hown0]; exact grown_set w2 ⟨G, _, none⟩ v'
  rw [← h0] at hos
  have hl2 : Loc w2 ((upd rv 10 ⟨v', (rv 10).n + m, (rv 10).xs ++ cs⟩) 0).v (rv 0).v := .inl rfl
  have b2 := a2.row (i := 0) (by decide) (r := ⟨(rv 0).v, (rv 0).n, (rv 0).xs.set (init.length * 9 + 5) v'⟩) hg2 hos hl2
  have ht2 : Tr w2 (upd rv 10 ⟨v', (rv 10).n + m, (rv 10).xs ++ cs⟩) (w2.setCell ⟨G, init.length * 9 + 5, none⟩ v') (upd (upd rv 10 ⟨v', (rv 10).n + m, (rv 10).xs ++ cs⟩) 0 ⟨(rv 0).v, (rv 0).n, (rv 0).xs.set (init.length * 9 + 5) v'⟩) := Tr.row (by decide) hg2 hl2
  have f2 := (h.fnt.tr ht).tr' ht2
  have hGp : G ≠ p := fun e => by
    obtain ⟨cur, hb⟩ := ownBlock_bk (h.live.own 0 (by decide)) (g := G) (by rw [h0]; rfl)
    subst e
    have := (bk_one hb h.par).1
    revert this
    decide
  have hGk : ∀ b es c, w2.heap[b]? = some (Obj.map es c) → b ≠ G := fun b es c hb e => by
    subst e
    obtain ⟨cur, hk⟩ := ownBlock_bk ho0 (g := b) rfl
    unfold Bk at hk
    rw [hb] at hk
    cases hk
  obtain ⟨e1, c1, m1⟩ := a4.isMap
  obtain ⟨ff, q1, q2⟩ := a5
  obtain ⟨e2, c2, m2⟩ := q1.isMap
  refine ⟨upd (upd rv 10 ⟨v', (rv 10).n + m, (rv 10).xs ++ cs⟩) 0 ⟨(rv 0).v, (rv 0).n, (rv 0).xs.set (init.length * 9 + 5) v'⟩, ?_, ?_, ?_, rfl⟩
  · refine { par := ?_, live := b2, fnt := ⟨f2.unit, ?_, f2.chr, f2.lks, f2.fts, f2.axs, f2.rgs, f2.fns, f2.cvt⟩, gmp := a4.keep (Below.heap_setCell _ _ _ _ (hGk _ _ _ m1)), glI := h.glI, cls := ClsD.tr ⟨ff, q1, q2⟩ ht2 (Below.heap_setCell _ _ _ _ (hGk _ _ _ m2)), few := few_upd (few_upd h.few (Nat.le_trans (Nat.le_add_right _ _) hK) (Nat.le_trans (Nat.add_le_add_right (h.few 10 (by decide)) m) hK)) (Nat.le_refl _) (Nat.le_trans (h.few 0 (by decide)) (Nat.le_trans (Nat.le_add_right _ _) hK)), low := h.low }
    · exact Bk.far a1 (fun e => hGp e.symm) _
    · obtain ⟨g1, g2⟩ := h.fnt.gly
      refine ⟨by show (rv 0).n = _; rw [g1, hs]; simp, .inr ?_⟩
      rcases g2 with ⟨e, _⟩ | ⟨init', g', ci, e1, e2, h3, h4, h5, h6, h7, h8, h9, h10⟩
      · rw [hs] at e; simp at e
      · rw [hs] at e1
        obtain ⟨rfl, e1⟩ := List.append_inj' e1 rfl
        obtain rfl : g = g' := by simpa using e1
        refine ⟨init, _, ci, rfl, ?_, h3, ht2.fl GlyphR.ok (ht.fl GlyphR.ok h4), (h5.tr PtR.ok ht).tr PtR.ok ht2, (h6.tr IntR.ok ht).tr IntR.ok ht2, ((h7.tr PartR.ok ht).app rfl hm (ht.fl PartR.ok hf)).tr PartR.ok ht2, (h8.tr AnchorR.ok ht).tr AnchorR.ok ht2, (h9.tr DeltaR.ok ht).tr DeltaR.ok ht2, (h10.tr InsR.ok ht).tr InsR.ok ht2⟩
        show (rv 0).xs.set (init.length * 9 + 5) v' = _
        rw [e2, set_last ci _ 5 _ _ h4.1]
        rfl
  · exact (KQ.live h.live (i := 10) (by decide) hg).trans (KQ.live a2 (i := 0) (by decide) hg2)
  · refine ((Below.refl Bd w).grown hg h.size (fun g e => ((h.live.own 10 (by decide)).lt g e).1)).setCell ?_ _
    exact ((h.live.own 0 (by decide)).lt G (by rw [h0]; rfl)).1
set_option maxHeartbeats 1000000 in
theorem PSt.more_ans (h : PSt w Bd p gm cm gl s rv K) {init : List Glyph} {g : Glyph} (hs : s.f.glyphs = init ++ [g]) {G n0 c0 : Nat} (h0 : (rv 0).v = .slice (some ⟨G, 0, none⟩) n0 c0) {v' : Value} {m : Nat} {cs : List Value} {ys : List Anchor} (hg : w.grownBy w2 (rv 11).v.ownBlock) (ho : w2.ownsRow Bd (kT 11) (kS 11) v' ((rv 11).n + m) ((rv 11).xs ++ cs)) (hl : Loc w (rv 11).v v')
    (hm : m = ys.length) (hf : Fl AnchorR 4 w (Fz w rv) cs ys) {K' : Nat} (hK : K + m ≤ K') :
    ∃ rv', PSt (w2.setCell ⟨G, init.length * 9 + 6, none⟩ v') Bd p gm cm gl { s with f := { s.f with glyphs := init ++ [{ g with anchors := g.anchors ++ ys }] } } rv' K' ∧ KQ cm w (w2.setCell ⟨G, init.length * 9 + 6, none⟩ v') ∧ Below Bd w (w2.setCell ⟨G, init.length * 9 + 6, none⟩ v') ∧ (rv' 0).v = (rv 0).v := by
  have ht : Tr w rv w2 (upd rv 11 ⟨v', (rv 11).n + m, (rv 11).xs ++ cs⟩) := Tr.row (by decide) hg hl
  obtain ⟨a1, a2, -, a4, a5⟩ := h.row (i := 11) (by decide) (r := ⟨v', (rv 11).n + m, (rv 11).xs ++ cs⟩) hg ho hl
  have k0 : (upd rv 11 ⟨v', (rv 11).n + m, (rv 11).xs ++ cs⟩) 0 = rv 0 := rfl
  have ho0 := a2.own 0 (by decide)
  rw [k0, h0] at ho0
  have hn0 : n0 = (rv 0).n := by
    obtain ⟨A9, c9, e⟩ := own_slice (h.live.own 0 (by decide))
    rw [h0] at e
    simp only [Value.slice.injEq] at e
    exact e.2.1
  have hos := own_set (hn0 ▸ ho0) (init.length * 9 + 6) v'
  rw [hn0] at h0
  have hown0 : (Value.slice (some ⟨G, 0, none⟩) (rv 0).n c0).ownBlock = some G := rfl
  have hg2 : w2.grownBy (w2.setCell ⟨G, init.length * 9 + 6, none⟩ v') ((upd rv 11 ⟨v', (rv 11).n + m, (rv 11).xs ++ cs⟩) 0).v.ownBlock := by rw [k0, h0, hown0]; exact grown_set w2 ⟨G, _, none⟩ v'
  rw [← h0] at hos
  have hl2 : Loc w2 ((upd rv 11 ⟨v', (rv 11).n + m, (rv 11).xs ++ cs⟩) 0).v (rv 0).v := .inl rfl
  have b2 := a2.row (i := 0) (by decide) (r := ⟨(rv 0).v, (rv 0).n, (rv 0).xs.set (init.length * 9 + 6) v'⟩) hg2 hos hl2
  have ht2 : Tr w2 (upd rv 11 ⟨v', (rv 11).n + m, (rv 11).xs ++ cs⟩) (w2.setCell ⟨G, init.length * 9 + 6, none⟩ v') (upd (upd rv 11 ⟨v', (rv 11).n + m, (rv 11).xs ++ cs⟩) 0 ⟨(rv 0).v, (rv 0).n, (rv 0).xs.set (init.length * 9 + 6) v'⟩) := Tr.row (by decide) hg2 hl2
  have f2 := (h.fnt.tr ht).tr' ht2
  have hGp : G ≠ p := fun e => by
    obtain ⟨cur, hb⟩ := ownBlock_bk (h.live.own 0 (by decide)) (g := G) (by rw [h0]; rfl)
    subst e
    have := (bk_one hb h.par).1
    revert this
    decide
  have hGk : ∀ b es c, w2.heap[b]? = some (Obj.map es c) → b ≠ G := fun b es c hb e => by
    subst e
    obtain ⟨cur, hk⟩ := ownBlock_bk ho0 (g := b) rfl
    unfold Bk at hk
    rw [hb] at hk
    cases hk
  obtain ⟨e1, c1, m1⟩ := a4.isMap
  obtain ⟨ff, q1, q2⟩ := a5
  obtain ⟨e2, c2, m2⟩ := q1.isMap
  refine ⟨upd (upd rv 11 ⟨v', (rv 11).n + m, (rv 11).xs ++ cs⟩) 0 ⟨(rv 0).v, (rv 0).n, (rv 0).xs.set (init.length * 9 + 6) v'⟩, ?_, ?_, ?_, rfl⟩
  · refine { par := ?_, live := b2, fnt := ⟨f2.unit, ?_, f2.chr, f2.lks, f2.fts, f2.axs, f2.rgs, f2.fns, f2.cvt⟩, gmp := a4.keep (Below.heap_setCell _ _ _ _ (hGk _ _ _ m1)), glI := h.glI, cls := ClsD.tr ⟨ff, q1, q2⟩ ht2 (Below.heap_setCell _ _ _ _ (hGk _ _ _ m2)), few := few_upd (few_upd h.few (Nat.le_trans (Nat.le_add_right _ _) hK) (Nat.le_trans (Nat.add_le_add_right (h.few 11 (by decide)) m) hK)) (Nat.le_refl _) (Nat.le_trans (h.few 0 (by decide)) (Nat.le_trans (Nat.le_add_right _ _) hK)), low := h.low }
    · exact Bk.far a1 (fun e => hGp e.symm) _
    · obtain ⟨g1, g2⟩ := h.fnt.gly
      refine ⟨by show (rv 0).n = _; rw [g1, hs]; simp, .inr ?_⟩
      rcases g2 with ⟨e, _⟩ | ⟨init', g', ci, e1, e2, h3, h4, h5, h6, h7, h8, h9, h10⟩
      · rw [hs] at e; simp at e
      · rw [hs] at e1
        obtain ⟨rfl, e1⟩ := List.append_inj' e1 rfl
        obtain rfl : g = g' := by simpa using e1
        refine ⟨init, _, ci, rfl, ?_, h3, ht2.fl GlyphR.ok (ht.fl GlyphR.ok h4), (h5.tr PtR.ok ht).tr PtR.ok ht2, (h6.tr IntR.ok ht).tr IntR.ok ht2, (h7.tr PartR.ok ht).tr PartR.ok ht2, ((h8.tr AnchorR.ok ht).app rfl hm (ht.fl AnchorR.ok hf)).tr AnchorR.ok ht2, (h9.tr DeltaR.ok ht).tr DeltaR.ok ht2, (h10.tr InsR.ok ht).tr InsR.ok ht2⟩
        show (rv 0).xs.set (init.length * 9 + 6) v' = _
        rw [e2, set_last ci _ 6 _ _ h4.1]
        rfl
  · exact (KQ.live h.live (i := 11) (by decide) hg).trans (KQ.live a2 (i := 0) (by decide) hg2)
  · refine ((Below.refl Bd w).grown hg h.size (fun g e => ((h.live.own 11 (by decide)).lt g e).1)).setCell ?_ _
    exact ((h.live.own 0 (by decide)).lt G (by rw [h0]; rfl)).1
set_option maxHeartbeats 1000000 in
theorem PSt.more_des (h : PSt w Bd p gm cm gl s rv K) {init : List Glyph} {g : Glyph} (hs : s.f.glyphs = init ++ [g]) {G n0 c0 : Nat} (h0 : (rv 0).v = .slice (some ⟨G, 0, none⟩) n0 c0) {v' : Value} {m : Nat} {cs : List Value} {ys : List Delta} (hg : w.grownBy w2 (rv 12).v.ownBlock) (ho : w2.ownsRow Bd (kT 12) (kS 12) v' ((rv 12).n + m) ((rv 12).xs ++ cs)) (hl : Loc w (rv 12).v v')
    (hm : m = ys.length) (hf : Fl DeltaR 4 w (Fz w rv) cs ys) {K' : Nat} (hK : K + m ≤ K') :
    ∃ rv', PSt (w2.setCell ⟨G, init.length * 9 + 7, none⟩ v') Bd p gm cm gl { s with f := { s.f with glyphs := init ++ [{ g with deltas := g.deltas ++ ys }] } } rv' K' ∧ KQ cm w (w2.setCell ⟨G, init.length * 9 + 7, none⟩ v') ∧ Below Bd w (w2.setCell ⟨G, init.length * 9 + 7, none⟩ v') ∧ (rv' 0).v = (rv 0).v := by
  have ht : Tr w rv w2 (upd rv 12 ⟨v', (rv 12).n + m, (rv 12).xs ++ cs⟩) := Tr.row (by decide) hg hl
  obtain ⟨a1, a2, -, a4, a5⟩ := h.row (i := 12) (by decide) (r := ⟨v', (rv 12).n + m, (rv 12).xs ++ cs⟩) hg ho hl
  have k0 : (upd rv 12 ⟨v', (rv 12).n + m, (rv 12).xs ++ cs⟩) 0 = rv 0 := rfl
  have ho0 := a2.own 0 (by decide)
  rw [k0, h0] at ho0
  have hn0 : n0 = (rv 0).n := by
    obtain ⟨A9, c9, e⟩ := own_slice (h.live.own 0 (by decide))
    rw [h0] at e
    simp only [Value.slice.injEq] at e
    exact e.2.1
  have hos := own_set (hn0 ▸ ho0) (init.length * 9 + 7) v'
  rw [hn0] at h0
  have hown0 : (Value.slice (some ⟨G, 0, none⟩) (rv 0).n c0).ownBlock = some G := rfl
  have hg2 : w2.grownBy (w2.setCell ⟨G, init.length * 9 + 7, none⟩ v') ((upd rv 12 ⟨v', (rv 12).n + m, (rv 12).xs ++ cs⟩) 0).v.ownBlock := by rw [k0, h0, hown0]; exact grown_set w2 ⟨G, _, none⟩ v'
  rw [← h0] at hos
  have hl2 : Loc w2 ((upd rv 12 ⟨v', (rv 12).n + m, (rv 12).xs ++ cs⟩) 0).v (rv 0).v := .inl rfl
  have b2 := a2.row (i := 0) (by decide) (r := ⟨(rv 0).v, (rv 0).n, (rv 0).xs.set (init.length * 9 + 7) v'⟩) hg2 hos hl2
  have ht2 : Tr w2 (upd rv 12 ⟨v', (rv 12).n + m, (rv 12).xs ++ cs⟩) (w2.setCell ⟨G, init.length * 9 + 7, none⟩ v') (upd (upd rv 12 ⟨v', (rv 12).n + m, (rv 12).xs ++ cs⟩) 0 ⟨(rv 0).v, (rv 0).n, (rv 0).xs.set (init.length * 9 + 7) v'⟩) := Tr.row (by decide) hg2 hl2
  have f2 := (h.fnt.tr ht).tr' ht2
  have hGp : G ≠ p := fun e => by
    obtain ⟨cur, hb⟩ := ownBlock_bk (h.live.own 0 (by decide)) (g := G) (by rw [h0]; rfl)
    subst e
    have := (bk_one hb h.par).1
    revert this
    decide
  have hGk : ∀ b es c, w2.heap[b]? = some (Obj.map es c) → b ≠ G := fun b es c hb e => by
    subst e
    obtain ⟨cur, hk⟩ := ownBlock_bk ho0 (g := b) rfl
    unfold Bk at hk
    rw [hb] at hk
    cases hk
  obtain ⟨e1, c1, m1⟩ := a4.isMap
  obtain ⟨ff, q1, q2⟩ := a5
  obtain ⟨e2, c2, m2⟩ := q1.isMap
  refine ⟨upd (upd rv 12 ⟨v', (rv 12).n + m, (rv 12).xs ++ cs⟩) 0 ⟨(rv 0).v, (rv 0).n, (rv 0).xs.set (init.length * 9 + 7) v'⟩, ?_, ?_, ?_, rfl⟩
  · refine { par := ?_, live := b2, fnt := ⟨f2.unit, ?_, f2.chr, f2.lks, f2.fts, f2.axs, f2.rgs, f2.fns, f2.cvt⟩, gmp := a4.keep (Below.heap_setCell _ _ _ _ (hGk _ _ _ m1)), glI := h.glI, cls := ClsD.tr ⟨ff, q1, q2⟩ ht2 (Below.heap_setCell _ _ _ _ (hGk _ _ _ m2)), few := few_upd (few_upd h.few (Nat.le_trans (Nat.le_add_right _ _) hK) (Nat.le_trans (Nat.add_le_add_right (h.few 12 (by decide)) m) hK)) (Nat.le_refl _) (Nat.le_trans (h.few 0 (by decide)) (Nat.le_trans (Nat.le_add_right _ _) hK)), low := h.low }
    · exact Bk.far a1 (fun e => hGp e.symm) _
    · obtain ⟨g1, g2⟩ := h.fnt.gly
      refine ⟨by show (rv 0).n = _; rw [g1, hs]; simp, .inr ?_⟩
      rcases g2 with ⟨e, _⟩ | ⟨init', g', ci, e1, e2, h3, h4, h5, h6, h7, h8, h9, h10⟩
      · rw [hs] at e; simp at e
      · rw [hs] at e1
        obtain ⟨rfl, e1⟩ := List.append_inj' e1 rfl
        obtain rfl : g = g' := by simpa using e1
        refine ⟨init, _, ci, rfl, ?_, h3, ht2.fl GlyphR.ok (ht.fl GlyphR.ok h4), (h5.tr PtR.ok ht).tr PtR.ok ht2, (h6.tr IntR.ok ht).tr IntR.ok ht2, (h7.tr PartR.ok ht).tr PartR.ok ht2, (h8.tr AnchorR.ok ht).tr AnchorR.ok ht2, ((h9.tr DeltaR.ok ht).app rfl hm (ht.fl DeltaR.ok hf)).tr DeltaR.ok ht2, (h10.tr InsR.ok ht).tr InsR.ok ht2⟩
        show (rv 0).xs.set (init.length * 9 + 7) v' = _
        rw [e2, set_last ci _ 7 _ _ h4.1]
        rfl
  · exact (KQ.live h.live (i := 12) (by decide) hg).trans (KQ.live a2 (i := 0) (by decide) hg2)
  · refine ((Below.refl Bd w).grown hg h.size (fun g e => ((h.live.own 12 (by decide)).lt g e).1)).setCell ?_ _
    exact ((h.live.own 0 (by decide)).lt G (by rw [h0]; rfl)).1
set_option maxHeartbeats 1000000 in
theorem PSt.more_his (h : PSt w Bd p gm cm gl s rv K) {init : List Glyph} {g : Glyph} (hs : s.f.glyphs = init ++ [g]) {G n0 c0 : Nat} (h0 : (rv 0).v = .slice (some ⟨G, 0, none⟩) n0 c0) {v' : Value} {m : Nat} {cs : List Value} {ys : List Ins} (hg : w.grownBy w2 (rv 13).v.ownBlock) (ho : w2.ownsRow Bd (kT 13) (kS 13) v' ((rv 13).n + m) ((rv 13).xs ++ cs)) (hl : Loc w (rv 13).v v')
    (hm : m = ys.length) (hf : Fl InsR 2 w (Fz w rv) cs ys) {K' : Nat} (hK : K + m ≤ K') :
    ∃ rv', PSt (w2.setCell ⟨G, init.length * 9 + 8, none⟩ v') Bd p gm cm gl { s with f := { s.f with glyphs := init ++ [{ g with hint := g.hint ++ ys }] } } rv' K' ∧ KQ cm w (w2.setCell ⟨G, init.length * 9 + 8, none⟩ v') ∧ Below Bd w (w2.setCell ⟨G, init.length * 9 + 8, none⟩ v') ∧ (rv' 0).v = (rv 0).v := by
  have ht : Tr w rv w2 (upd rv 13 ⟨v', (rv 13).n + m, (rv 13).xs ++ cs⟩) := Tr.row (by decide) hg hl
  obtain ⟨a1, a2, -, a4, a5⟩ := h.row (i := 13) (by decide) (r := ⟨v', (rv 13).n + m, (rv 13).xs ++ cs⟩) hg ho hl
  have k0 : (upd rv 13 ⟨v', (rv 13).n + m, (rv 13).xs ++ cs⟩) 0 = rv 0 := rfl
  have ho0 := a2.own 0 (by decide)
  rw [k0, h0] at ho0
  have hn0 : n0 = (rv 0).n := by
    obtain ⟨A9, c9, e⟩ := own_slice (h.live.own 0 (by decide))
    rw [h0] at e
    simp only [Value.slice.injEq] at e
    exact e.2.1
  have hos := own_set (hn0 ▸ ho0) (init.length * 9 + 8) v'
  rw [hn0] at h0
  have hown0 : (Value.slice (some ⟨G, 0, none⟩) (rv 0).n c0).ownBlock = some G := rfl
  have hg2 : w2.grownBy (w2.setCell ⟨G, init.length * 9 + 8, none⟩ v') ((upd rv 13 ⟨v', (rv 13).n + m, (rv 13).xs ++ cs⟩) 0).v.ownBlock := by rw [k0, h0, hown0]; exact grown_set w2 ⟨G, _, none⟩ v'
  rw [← h0] at hos
  have hl2 : Loc w2 ((upd rv 13 ⟨v', (rv 13).n + m, (rv 13).xs ++ cs⟩) 0).v (rv 0).v := .inl rfl
  have b2 := a2.row (i := 0) (by decide) (r := ⟨(rv 0).v, (rv 0).n, (rv 0).xs.set (init.length * 9 + 8) v'⟩) hg2 hos hl2
  have ht2 : Tr w2 (upd rv 13 ⟨v', (rv 13).n + m, (rv 13).xs ++ cs⟩) (w2.setCell ⟨G, init.length * 9 + 8, none⟩ v') (upd (upd rv 13 ⟨v', (rv 13).n + m, (rv 13).xs ++ cs⟩) 0 ⟨(rv 0).v, (rv 0).n, (rv 0).xs.set (init.length * 9 + 8) v'⟩) := Tr.row (by decide) hg2 hl2
  have f2 := (h.fnt.tr ht).tr' ht2
  have hGp : G ≠ p := fun e => by
    obtain ⟨cur, hb⟩ := ownBlock_bk (h.live.own 0 (by decide)) (g := G) (by rw [h0]; rfl)
    subst e
    have := (bk_one hb h.par).1
    revert this
    decide
  have hGk : ∀ b es c, w2.heap[b]? = some (Obj.map es c) → b ≠ G := fun b es c hb e => by
    subst e
    obtain ⟨cur, hk⟩ := ownBlock_bk ho0 (g := b) rfl
    unfold Bk at hk
    rw [hb] at hk
    cases hk
  obtain ⟨e1, c1, m1⟩ := a4.isMap
  obtain ⟨ff, q1, q2⟩ := a5
  obtain ⟨e2, c2, m2⟩ := q1.isMap
  refine ⟨upd (upd rv 13 ⟨v', (rv 13).n + m, (rv 13).xs ++ cs⟩) 0 ⟨(rv 0).v, (rv 0).n, (rv 0).xs.set (init.length * 9 + 8) v'⟩, ?_, ?_, ?_, rfl⟩
  · refine { par := ?_, live := b2, fnt := ⟨f2.unit, ?_, f2.chr, f2.lks, f2.fts, f2.axs, f2.rgs, f2.fns, f2.cvt⟩, gmp := a4.keep (Below.heap_setCell _ _ _ _ (hGk _ _ _ m1)), glI := h.glI, cls := ClsD.tr ⟨ff, q1, q2⟩ ht2 (Below.heap_setCell _ _ _ _ (hGk _ _ _ m2)), few := few_upd (few_upd h.few (Nat.le_trans (Nat.le_add_right _ _) hK) (Nat.le_trans (Nat.add_le_add_right (h.few 13 (by decide)) m) hK)) (Nat.le_refl _) (Nat.le_trans (h.few 0 (by decide)) (Nat.le_trans (Nat.le_add_right _ _) hK)), low := h.low }
    · exact Bk.far a1 (fun e => hGp e.symm) _
    · obtain ⟨g1, g2⟩ := h.fnt.gly
      refine ⟨by show (rv 0).n = _; rw [g1, hs]; simp, .inr ?_⟩
      rcases g2 with ⟨e, _⟩ | ⟨init', g', ci, e1, e2, h3, h4, h5, h6, h7, h8, h9, h10⟩
      · rw [hs] at e; simp at e
      · rw [hs] at e1
        obtain ⟨rfl, e1⟩ := List.append_inj' e1 rfl
        obtain rfl : g = g' := by simpa using e1
        refine ⟨init, _, ci, rfl, ?_, h3, ht2.fl GlyphR.ok (ht.fl GlyphR.ok h4), (h5.tr PtR.ok ht).tr PtR.ok ht2, (h6.tr IntR.ok ht).tr IntR.ok ht2, (h7.tr PartR.ok ht).tr PartR.ok ht2, (h8.tr AnchorR.ok ht).tr AnchorR.ok ht2, (h9.tr DeltaR.ok ht).tr DeltaR.ok ht2, ((h10.tr InsR.ok ht).app rfl hm (ht.fl InsR.ok hf)).tr InsR.ok ht2⟩
        show (rv 0).xs.set (init.length * 9 + 8) v' = _
        rw [e2, set_last ci _ 8 _ _ h4.1]
        rfl
  · exact (KQ.live h.live (i := 13) (by decide) hg).trans (KQ.live a2 (i := 0) (by decide) hg2)
  · refine ((Below.refl Bd w).grown hg h.size (fun g e => ((h.live.own 13 (by decide)).lt g e).1)).setCell ?_ _
    exact ((h.live.own 0 (by decide)).lt G (by rw [h0]; rfl)).1
end
end Go.Proofs.YtkijckccfookeaaGreatDoor
