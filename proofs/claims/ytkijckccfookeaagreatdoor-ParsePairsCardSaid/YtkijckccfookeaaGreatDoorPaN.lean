/- parse: a glyph more, a lookup more, a rule more. Plain facts on the parser's state. -/
import Derived.Test.YtkijckccfookeaaGreatDoorPaGl
namespace Go.Proofs.YtkijckccfookeaaGreatDoor
open Go.RowKit

/-- the last glyph's rows begun anew -/
def drop6 (rv : Rows) : Rows := fun j => if 8 ≤ j ∧ j ≤ 13 then RV.nil else rv j
theorem drop6_in (rv : Rows) {j : Nat} (h : 8 ≤ j ∧ j ≤ 13) : drop6 rv j = RV.nil := by rw [drop6, if_pos h]
theorem drop6_out (rv : Rows) {j : Nat} (h : ¬ (8 ≤ j ∧ j ≤ 13)) : drop6 rv j = rv j := by rw [drop6, if_neg h]
theorem nil_own : RV.nil.v.ownBlock = none := rfl
theorem Live.drop6 {w : World} {Bd : Nat} {rv : Rows} (h : Live w Bd rv) : Live w Bd (drop6 rv) := by
  refine ⟨fun j hj => ?_, fun a b ha hb hab g => ?_⟩
  · by_cases hd : 8 ≤ j ∧ j ≤ 13
    · rw [drop6_in _ hd]; exact World.ownsRow_nil w Bd _ _
    · rw [drop6_out _ hd]; exact h.own j hj
  · by_cases hd : 8 ≤ a ∧ a ≤ 13
    · rw [drop6_in _ hd]; intro e; cases e
    · rw [drop6_out _ hd]
      by_cases hd2 : 8 ≤ b ∧ b ≤ 13
      · rw [drop6_in _ hd2]; intro _ e; cases e
      · rw [drop6_out _ hd2]; exact h.apart a b ha hb hab g
theorem Tr.drop6 (w : World) (rv : Rows) : Tr w rv w (drop6 rv) :=
  ⟨Same.refl _ _, fun b ⟨cs, t, h1, h2, h3⟩ => ⟨cs, t, h1, h2, fun j hj => by
    by_cases hd : 8 ≤ j ∧ j ≤ 13
    · rw [drop6_in _ hd]; intro e; cases e
    · rw [drop6_out _ hd]; exact h3 j hj⟩⟩
theorem Live.fz6 {w : World} {Bd : Nat} {rv : Rows} (h : Live w Bd rv) {i : Nat} (hi : 8 ≤ i ∧ i ≤ 13) : ∀ g, (rv i).v.ownBlock = some g → Fz w (Proofs.YtkijckccfookeaaGreatDoor.drop6 rv) g := by
  intro g hg
  obtain ⟨cur, hb⟩ := ownBlock_bk (h.own i (by omega)) hg
  refine ⟨cur, kT i, hb, kT_data i, fun j hj => ?_⟩
  by_cases hd : 8 ≤ j ∧ j ≤ 13
  · rw [drop6_in _ hd]; intro e; cases e
  · rw [drop6_out _ hd]
    exact h.apart i j (by omega) hj (fun e => hd (e ▸ hi)) g hg
/-- one of the last glyph's rows, read when it is written no more -/
theorem Live.told6 {α : Type} {R : Rel α} (ok : R.Ok) {w : World} {Bd : Nat} {rv : Rows} (h : Live w Bd rv) {i : Nat} (hi : 8 ≤ i ∧ i ≤ 13) {size : Nat} (hs : kS i = size) {xs : List α} (hf : RowD R size w (Fz w rv) (rv i) xs) : ∃ A c, (rv i).v = .slice A xs.length c ∧ Sl R size w (Fz w (Proofs.YtkijckccfookeaaGreatDoor.drop6 rv)) A xs := by
  have ho := h.own i (by omega)
  obtain ⟨A, c, hv⟩ := own_slice ho
  rw [hs, hv, hf.1] at ho
  refine ⟨A, c, by rw [hv, hf.1], Sl.of_own' ho ((Tr.drop6 w rv).fl ok hf.2) (fun g hg => h.fz6 hi g ?_) (by rw [← hs]; exact kS_pos i)⟩
  rw [hv, hf.1]
  exact hg
section
variable {w w2 : World} {Bd p gm cm : Nat} {gl : Gl} {s : PS} {rv : Rows} {K : Nat}
/-- all glyphs, read when the last one is written no more -/
theorem GlD.told {gs : List Glyph} (hl : Live w Bd rv) (h : GlD w (Fz w rv) (rv 0) (rv 8) (rv 9) (rv 10) (rv 11) (rv 12) (rv 13) gs) : Fl GlyphR 9 w (Fz w (Proofs.YtkijckccfookeaaGreatDoor.drop6 rv)) (rv 0).xs gs := by
  rcases h.2 with ⟨rfl, e⟩ | ⟨init, g, ci, rfl, e2, h3, h4, h5, h6, h7, h8, h9, h10⟩
  · rw [e]; exact Fl.nil
  · rw [e2]
    obtain ⟨A3, c3, v3, s3⟩ := hl.told6 PtR.ok (i := 8) (by decide) rfl h5
    obtain ⟨A4, c4, v4, s4⟩ := hl.told6 IntR.ok (i := 9) (by decide) rfl h6
    obtain ⟨A5, c5, v5, s5⟩ := hl.told6 PartR.ok (i := 10) (by decide) rfl h7
    obtain ⟨A6, c6, v6, s6⟩ := hl.told6 AnchorR.ok (i := 11) (by decide) rfl h8
    obtain ⟨A7, c7, v7, s7⟩ := hl.told6 DeltaR.ok (i := 12) (by decide) rfl h9
    obtain ⟨A8, c8, v8, s8⟩ := hl.told6 InsR.ok (i := 13) (by decide) rfl h10
    rw [v3, v4, v5, v6, v7, v8]
    exact ((Tr.drop6 w rv).fl GlyphR.ok h4).snoc (R := GlyphR) ⟨A3, c3, A4, c4, A5, c5, A6, c6, A7, c7, A8, c8, rfl, h3, s3, s4, s5, s6, s7, s8⟩ rfl
set_option maxHeartbeats 1000000 in
theorem PSt.newGlyph (h : PSt w Bd p gm cm gl s rv K) {v' : Value} {nm : B} {adv : Int} {mk : Bool} (hg : w.grownBy w2 (rv 0).v.ownBlock)
    (ho : w2.ownsRow Bd (kT 0) (kS 0) v' ((rv 0).n + 1) ((rv 0).xs ++ [.string ⟨nm.toArray⟩, .int .i64 adv, .bool mk, .slice none 0 0, .slice none 0 0, .slice none 0 0, .slice none 0 0, .slice none 0 0, .slice none 0 0])) (hl : Loc w (rv 0).v v') (ha : I64 adv) {K' : Nat} (hK : K + 1 ≤ K') :
    ∃ rv', PSt (w2.setCell ⟨p, 1, none⟩ v') Bd p gm cm gl { s with f := { s.f with glyphs := s.f.glyphs ++ [⟨nm, adv, mk, [], [], [], [], [], []⟩] } } rv' K' ∧ KQ cm w (w2.setCell ⟨p, 1, none⟩ v') := by
  obtain ⟨a1, a2, ht, a4, a5⟩ := h.row (i := 0) (by decide) (r := ⟨v', (rv 0).n + 1, _⟩) hg ho hl
  generalize hr0 : (⟨v', (rv 0).n + 1, (rv 0).xs ++ [.string ⟨nm.toArray⟩, .int .i64 adv, .bool mk, .slice none 0 0, .slice none 0 0, .slice none 0 0, .slice none 0 0, .slice none 0 0, .slice none 0 0]⟩ : RV) = r0 at *
  have ht6 := ht.trans (Tr.drop6 w2 (upd rv 0 r0))
  have f6 := h.fnt.tr ht6
  have hgl : GlD w2 (Fz w2 (upd rv 0 r0)) (rv 0) ((upd rv 0 r0) 8) ((upd rv 0 r0) 9) ((upd rv 0 r0) 10) ((upd rv 0 r0) 11) ((upd rv 0 r0) 12) ((upd rv 0 r0) 13) s.f.glyphs := h.fnt.gly.tr ht
  have hall : Fl GlyphR 9 w2 (Fz w2 (Proofs.YtkijckccfookeaaGreatDoor.drop6 (upd rv 0 r0))) (rv 0).xs s.f.glyphs := by
    rcases hgl.2 with ⟨e0, e⟩ | ⟨init, g, ci, e1, e2, h3, h4, h5, h6, h7, h8, h9, h10⟩
    · rw [e0, e]; exact Fl.nil
    · rw [e1, e2]
      obtain ⟨A3, c3, v3, s3⟩ := a2.told6 PtR.ok (i := 8) (by decide) rfl h5
      obtain ⟨A4, c4, v4, s4⟩ := a2.told6 IntR.ok (i := 9) (by decide) rfl h6
      obtain ⟨A5, c5, v5, s5⟩ := a2.told6 PartR.ok (i := 10) (by decide) rfl h7
      obtain ⟨A6, c6, v6, s6⟩ := a2.told6 AnchorR.ok (i := 11) (by decide) rfl h8
      obtain ⟨A7, c7, v7, s7⟩ := a2.told6 DeltaR.ok (i := 12) (by decide) rfl h9
      obtain ⟨A8, c8, v8, s8⟩ := a2.told6 InsR.ok (i := 13) (by decide) rfl h10
      rw [v3, v4, v5, v6, v7, v8]
      exact ((Tr.drop6 w2 (upd rv 0 r0)).fl GlyphR.ok h4).snoc (R := GlyphR) ⟨A3, c3, A4, c4, A5, c5, A6, c6, A7, c7, A8, c8, rfl, h3, s3, s4, s5, s6, s7, s8⟩ rfl
  have f7 : FD w2 (Fz w2 (Proofs.YtkijckccfookeaaGreatDoor.drop6 (upd rv 0 r0))) (Proofs.YtkijckccfookeaaGreatDoor.drop6 (upd rv 0 r0)) { s.f with glyphs := s.f.glyphs ++ [⟨nm, adv, mk, [], [], [], [], [], []⟩] } := by
    refine ⟨f6.unit, ?_, f6.chr, f6.lks, f6.fts, f6.axs, f6.rgs, f6.fns, f6.cvt⟩
    have k0 : (Proofs.YtkijckccfookeaaGreatDoor.drop6 (upd rv 0 r0)) 0 = r0 := rfl
    rw [k0]
    refine ⟨?_, .inr ⟨s.f.glyphs, ⟨nm, adv, mk, [], [], [], [], [], []⟩, (rv 0).xs, rfl, ?_, ha, hall, RowD.nil _ _ _ _, RowD.nil _ _ _ _, RowD.nil _ _ _ _, RowD.nil _ _ _ _, RowD.nil _ _ _ _, RowD.nil _ _ _ _⟩⟩
    · rw [← hr0]
      show (rv 0).n + 1 = _
      rw [h.fnt.gly.1]
      simp
    · rw [← hr0]
      rfl
  have hfew : ∀ j, j < 15 → (Proofs.YtkijckccfookeaaGreatDoor.drop6 (upd rv 0 r0) j).n ≤ K' := by
    intro j hj
    by_cases hd : 8 ≤ j ∧ j ≤ 13
    · rw [drop6_in _ hd]; exact Nat.zero_le _
    · rw [drop6_out _ hd]
      refine few_upd h.few (Nat.le_trans (Nat.le_add_right _ _) hK) ?_ j hj
      rw [← hr0]
      exact Nat.le_trans (Nat.add_le_add_right (h.few 0 (by decide)) 1) hK
  obtain ⟨ff, q1, q2⟩ := a5
  refine ⟨Proofs.YtkijckccfookeaaGreatDoor.drop6 (upd rv 0 r0), PSt.parW (cs := parCells s rv gm cm) (s' := { s with f := { s.f with glyphs := s.f.glyphs ++ [⟨nm, adv, mk, [], [], [], [], [], []⟩] } }) a1 a2.drop6 f7 a4 h.glI (ClsD.tr ⟨ff, q1, q2⟩ (Tr.drop6 w2 (upd rv 0 r0)) rfl) hfew h.low 1 v' ?_, (KQ.live h.live (by decide) hg).trans (KQ.par a1 1 v')⟩
  rw [← hr0]
  rfl
/-- the last lookup's cells -/
theorem PSt.lookup_cells (h : PSt w Bd p gm cm gl s rv K) {init : List Lookup} {l : Lookup} (hs : s.f.lookups = init ++ [l]) :
    ∃ G c0 ci, (rv 2).v = .slice (some ⟨G, 0, none⟩) (init.length + 1) c0 ∧ (rv 2).xs = ci ++ [.int .i64 l.kind, .bool l.ignore, (rv 14).v] ∧ ci.length = init.length * 3 ∧ G < w.heap.size ∧
      (∀ j, j < 3 → w.cell? ⟨G, init.length * 3 + j, none⟩ = [Value.int .i64 l.kind, .bool l.ignore, (rv 14).v][j]?) ∧ (∀ j, w.frozen? ⟨G, j, none⟩ = false) ∧ (∃ cur, Bk w G 72 cur) := by
  have hn := h.fnt.lks.1
  have ho := h.live.own 2 (by decide)
  rcases h.fnt.lks.2 with ⟨e, _⟩ | ⟨init', l', ci, e1, e2, e3, e4, -⟩
  · rw [hs] at e; simp at e
  · rw [hs] at e1
    obtain ⟨rfl, e1⟩ := List.append_inj' e1 rfl
    obtain rfl : l = l' := by simpa using e1
    have hl := e4.1
    have hn2 : (rv 2).n = init.length + 1 := by rw [hn, hs]; simp
    rcases ho.2 with ⟨_, h2⟩ | ⟨G, cap, cur, h1, hb, hh, hnc, hm, hsz, htk⟩
    · omega
    · rw [hn2] at h1
      refine ⟨G, cap, ci, h1, e2, hl, (Array.getElem?_eq_some_iff.1 hh).1, fun j hj => ?_, fun j => Bk.frozen hh j, ⟨cur, hh⟩⟩
      rw [Bk.cell hh]
      have hlt : init.length * 3 + j < (rv 2).n * kS 2 := by rw [hn2]; show _ < (init.length + 1) * 3; omega
      have : (cur.toList.take ((rv 2).n * kS 2))[init.length * 3 + j]? = cur.toList[init.length * 3 + j]? := by rw [List.getElem?_take, if_pos hlt]
      rw [← Array.getElem?_toList, ← this, htk, e2, List.getElem?_append_right (by rw [hl]; omega), hl, Nat.add_sub_cancel_left]
set_option maxHeartbeats 1000000 in
theorem PSt.newLookup (h : PSt w Bd p gm cm gl s rv K) {v' : Value} {kd : Int} {ig : Bool} (hg : w.grownBy w2 (rv 2).v.ownBlock)
    (ho : w2.ownsRow Bd (kT 2) (kS 2) v' ((rv 2).n + 1) ((rv 2).xs ++ [.int .i64 kd, .bool ig, .slice none 0 0])) (hl : Loc w (rv 2).v v') (ha : I64 kd) {K' : Nat} (hK : K + 1 ≤ K') :
    ∃ rv', PSt (w2.setCell ⟨p, 3, none⟩ v') Bd p gm cm gl { s with f := { s.f with lookups := s.f.lookups ++ [⟨kd, ig, []⟩] } } rv' K' ∧ KQ cm w (w2.setCell ⟨p, 3, none⟩ v') := by
  obtain ⟨a1, a2, ht, a4, a5⟩ := h.row (i := 2) (by decide) (r := ⟨v', (rv 2).n + 1, _⟩) hg ho hl
  generalize hr0 : (⟨v', (rv 2).n + 1, (rv 2).xs ++ [.int .i64 kd, .bool ig, .slice none 0 0]⟩ : RV) = r0 at *
  have ht6 := ht.trans (Tr.drop w2 (upd rv 2 r0) 14)
  have f6 := h.fnt.tr ht6
  have hlk : LkD w2 (Fz w2 (upd rv 2 r0)) (rv 2) ((upd rv 2 r0) 14) s.f.lookups := h.fnt.lks.tr ht
  have hall : Fl LookupR 3 w2 (Fz w2 (upd (upd rv 2 r0) 14 RV.nil)) (rv 2).xs s.f.lookups := by
    rcases hlk.2 with ⟨e0, e⟩ | ⟨init, l, ci, e1, e2, h3, h4, h5⟩
    · rw [e0, e]; exact Fl.nil
    · rw [e1, e2]
      have ho14 := a2.own 14 (by decide)
      obtain ⟨A, c, hv⟩ := own_slice ho14
      rw [hv, h5.1] at ho14
      rw [hv, h5.1]
      refine ((Tr.drop w2 (upd rv 2 r0) 14).fl LookupR.ok h4).snoc (R := LookupR) ⟨A, c, rfl, h3, Sl.of_own' ho14 ((Tr.drop w2 (upd rv 2 r0) 14).fl RuleR.ok h5.2) (fun g hg => a2.fz_drop (i := 14) (by decide) g ?_) (by decide)⟩ rfl
      rw [hv, h5.1]
      exact hg
  have f7 : FD w2 (Fz w2 (upd (upd rv 2 r0) 14 RV.nil)) (upd (upd rv 2 r0) 14 RV.nil) { s.f with lookups := s.f.lookups ++ [⟨kd, ig, []⟩] } := by
    refine ⟨f6.unit, f6.gly, f6.chr, ?_, f6.fts, f6.axs, f6.rgs, f6.fns, f6.cvt⟩
    have k0 : (upd (upd rv 2 r0) 14 RV.nil) 2 = r0 := rfl
    rw [k0]
    refine ⟨?_, .inr ⟨s.f.lookups, ⟨kd, ig, []⟩, (rv 2).xs, rfl, ?_, ha, hall, RowD.nil _ _ _ _⟩⟩
    · rw [← hr0]
      show (rv 2).n + 1 = _
      rw [h.fnt.lks.1]
      simp
    · rw [← hr0]
      rfl
  have hfew : ∀ j, j < 15 → (upd (upd rv 2 r0) 14 RV.nil j).n ≤ K' := by
    refine few_upd (few_upd h.few (Nat.le_trans (Nat.le_add_right _ _) hK) ?_) (Nat.le_refl _) (Nat.zero_le _)
    rw [← hr0]
    exact Nat.le_trans (Nat.add_le_add_right (h.few 2 (by decide)) 1) hK
  obtain ⟨ff, q1, q2⟩ := a5
  refine ⟨upd (upd rv 2 r0) 14 RV.nil, PSt.parW (cs := parCells s rv gm cm) (s' := { s with f := { s.f with lookups := s.f.lookups ++ [⟨kd, ig, []⟩] } }) a1 (a2.drop 14) f7 a4 h.glI (ClsD.tr ⟨ff, q1, q2⟩ (Tr.drop w2 (upd rv 2 r0) 14) rfl) hfew h.low 3 v' ?_, (KQ.live h.live (by decide) hg).trans (KQ.par a1 3 v')⟩
  rw [← hr0]
  rfl
set_option maxHeartbeats 1000000 in
theorem PSt.more_rule (h : PSt w Bd p gm cm gl s rv K) {init : List Lookup} {l : Lookup} (hs : s.f.lookups = init ++ [l]) {G n0 c0 : Nat} (h0 : (rv 2).v = .slice (some ⟨G, 0, none⟩) n0 c0) {v' : Value} {cs : List Value} {y : Rule} (hg : w.grownBy w2 (rv 14).v.ownBlock) (ho : w2.ownsRow Bd (kT 14) (kS 14) v' ((rv 14).n + 1) ((rv 14).xs ++ cs)) (hl : Loc w (rv 14).v v')
    (hf : Fl RuleR 6 w (Fz w rv) cs [y]) {K' : Nat} (hK : K + 1 ≤ K') :
    ∃ rv', PSt (w2.setCell ⟨G, init.length * 3 + 2, none⟩ v') Bd p gm cm gl { s with f := { s.f with lookups := init ++ [{ l with rules := l.rules ++ [y] }] } } rv' K' ∧ KQ cm w (w2.setCell ⟨G, init.length * 3 + 2, none⟩ v') ∧ Below Bd w (w2.setCell ⟨G, init.length * 3 + 2, none⟩ v') := by
  have ht : Tr w rv w2 (upd rv 14 ⟨v', (rv 14).n + 1, (rv 14).xs ++ cs⟩) := Tr.row (by decide) hg hl
  obtain ⟨a1, a2, -, a4, a5⟩ := h.row (i := 14) (by decide) (r := ⟨v', (rv 14).n + 1, (rv 14).xs ++ cs⟩) hg ho hl
  have k0 : (upd rv 14 ⟨v', (rv 14).n + 1, (rv 14).xs ++ cs⟩) 2 = rv 2 := rfl
  have ho0 := a2.own 2 (by decide)
  rw [k0, h0] at ho0
  have hn0 : n0 = (rv 2).n := by
    obtain ⟨A9, c9, e⟩ := own_slice (h.live.own 2 (by decide))
    rw [h0] at e
    simp only [Value.slice.injEq] at e
    exact e.2.1
  have hos := own_set (hn0 ▸ ho0) (init.length * 3 + 2) v'
  rw [hn0] at h0
  have hown0 : (Value.slice (some ⟨G, 0, none⟩) (rv 2).n c0).ownBlock = some G := rfl
  have hg2 : w2.grownBy (w2.setCell ⟨G, init.length * 3 + 2, none⟩ v') ((upd rv 14 ⟨v', (rv 14).n + 1, (rv 14).xs ++ cs⟩) 2).v.ownBlock := by rw [k0, h0, hown0]; exact grown_set w2 ⟨G, _, none⟩ v'
  rw [← h0] at hos
  have hl2 : Loc w2 ((upd rv 14 ⟨v', (rv 14).n + 1, (rv 14).xs ++ cs⟩) 2).v (rv 2).v := .inl rfl
  have b2 := a2.row (i := 2) (by decide) (r := ⟨(rv 2).v, (rv 2).n, (rv 2).xs.set (init.length * 3 + 2) v'⟩) hg2 hos hl2
  have ht2 : Tr w2 (upd rv 14 ⟨v', (rv 14).n + 1, (rv 14).xs ++ cs⟩) (w2.setCell ⟨G, init.length * 3 + 2, none⟩ v') (upd (upd rv 14 ⟨v', (rv 14).n + 1, (rv 14).xs ++ cs⟩) 2 ⟨(rv 2).v, (rv 2).n, (rv 2).xs.set (init.length * 3 + 2) v'⟩) := Tr.row (by decide) hg2 hl2
  have f2 := (h.fnt.tr ht).tr' ht2
  have hGp : G ≠ p := fun e => by
    obtain ⟨cur, hb⟩ := ownBlock_bk (h.live.own 2 (by decide)) (g := G) (by rw [h0]; rfl)
    subst e
    have := (bk_one hb h.par).1
    revert this
    decide
  have hGk : ∀ b es c, w2.heap[b]? = some (Obj.map es c) → b ≠ G := fun b es c hb e => by
    subst e
    obtain ⟨cur, hk⟩ := ownBlock_bk ho0 (g := b) rfl
    unfold Bk at hk
    rw [hb] at hk
    cases hk
  obtain ⟨e1, c1, m1⟩ := a4.isMap
  obtain ⟨ff, q1, q2⟩ := a5
  obtain ⟨e2, c2, m2⟩ := q1.isMap
  refine ⟨upd (upd rv 14 ⟨v', (rv 14).n + 1, (rv 14).xs ++ cs⟩) 2 ⟨(rv 2).v, (rv 2).n, (rv 2).xs.set (init.length * 3 + 2) v'⟩, ?_, ?_, ?_⟩
  · refine { par := ?_, live := b2, fnt := ⟨f2.unit, f2.gly, f2.chr, ?_, f2.fts, f2.axs, f2.rgs, f2.fns, f2.cvt⟩, gmp := a4.keep (Below.heap_setCell _ _ _ _ (hGk _ _ _ m1)), glI := h.glI, cls := ClsD.tr ⟨ff, q1, q2⟩ ht2 (Below.heap_setCell _ _ _ _ (hGk _ _ _ m2)), few := few_upd (few_upd h.few (Nat.le_trans (Nat.le_add_right _ _) hK) (Nat.le_trans (Nat.add_le_add_right (h.few 14 (by decide)) 1) hK)) (Nat.le_refl _) (Nat.le_trans (h.few 2 (by decide)) (Nat.le_trans (Nat.le_add_right _ _) hK)), low := h.low }
    · exact Bk.far a1 (fun e => hGp e.symm) _
    · obtain ⟨g1, g2⟩ := h.fnt.lks
      refine ⟨by show (rv 2).n = _; rw [g1, hs]; simp, .inr ?_⟩
      rcases g2 with ⟨e, _⟩ | ⟨init', l', ci, e1, e2, h3, h4, h5⟩
      · rw [hs] at e; simp at e
      · rw [hs] at e1
        obtain ⟨rfl, e1⟩ := List.append_inj' e1 rfl
        obtain rfl : l = l' := by simpa using e1
        refine ⟨init, _, ci, rfl, ?_, h3, ht2.fl LookupR.ok (ht.fl LookupR.ok h4), ((h5.tr RuleR.ok ht).app rfl rfl (ht.fl RuleR.ok hf)).tr RuleR.ok ht2⟩
        show (rv 2).xs.set (init.length * 3 + 2) v' = _
        rw [e2, set_last ci _ 2 _ _ h4.1]
        rfl
  · exact (KQ.live h.live (i := 14) (by decide) hg).trans (KQ.live a2 (i := 2) (by decide) hg2)
  · refine ((Below.refl Bd w).grown hg h.size (fun g e => ((h.live.own 14 (by decide)).lt g e).1)).setCell ?_ _
    exact ((h.live.own 2 (by decide)).lt G (by rw [h0]; rfl)).1
end
end Go.Proofs.YtkijckccfookeaaGreatDoor
