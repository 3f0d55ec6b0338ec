/- Plain Lean: a right font comes back from its sources. -/
import Derived.Test.YtkijckccfookeaaGreatDoorM38
namespace Go.Proofs.YtkijckccfookeaaGreatDoor
open Go.RowKit

theorem ok_gyL {g : Glyph} (h : nameB g.name = true) : gyL g ≠ [] ∧ ∀ w ∈ gyL g, tokB w = true := by
  refine tok_all2 (by decide) (tok_all2 (name_tok h) (tok_all2 (it_tok _) fun w hw => ?_).2).2
  split at hw
  · simp only [List.mem_singleton] at hw
    subst hw
    decide
  · simp at hw
theorem st_gyL {gl : Gl} {s : PS} {g : Glyph} (h : nameB g.name = true) (ha : N9 g.advance) (hl : gl.lookup g.name = some s.f.glyphs.length) :
    stmt gl s (gyL g) = .ok (gst s s.f.glyphs ⟨g.name, g.advance, g.mark, [], [], [], [], [], []⟩) := by
  have hv : vGl gl g.name = s.f.glyphs.length := by rw [vGl, hl]; rfl
  rw [gyL, st_glyph]
  cases hm : g.mark <;> simp [rGlyph, eName_ok h, eNum_ok _ ha, (it_num _ ha).2, hv, gst]
/-- a glyph's lines: its instructions in a line, or in none if there are none -/
def glyL (gs : List Glyph) (all : Bool) (g : Glyph) : List (List B) :=
  gyL g :: ((contsFrom g.points 0 g.ends).map coL ++ (g.parts.map (paL gs) ++ (g.anchors.map anL ++ (g.deltas.map deL ++ if all || !g.hint.isEmpty then [hiL g.hint] else []))))
theorem runs_glyph {gl : Gl} {gs : List Glyph} (hg : GlOk gl gs) (all : Bool) (s : PS) (g : Glyph) (h : OkG gs.length g) (hl : gl.lookup g.name = some s.f.glyphs.length) :
    Runs gl s (glyL gs all g) (gst s s.f.glyphs g) := by
  refine .cons (ok_gyL h.name) (st_gyL h.name h.adv hl) ?_
  have r1 := runs_conts (gl := gl) (s := s) (init := s.f.glyphs) g.points h.pts g.ends 0 [] (Nat.zero_le _) h.ends g.name g.advance g.mark
  rw [List.take_zero, List.nil_append] at r1
  refine r1.app ?_
  have r2 := Runs.each (gl := gl) g.parts (paL gs) (fun d => gst s s.f.glyphs ⟨g.name, g.advance, g.mark, g.points, g.ends, d, [], [], []⟩) (fun p hp => ok_paL hg (h.parts p hp).1) (fun done p rest e => st_paL hg (h.parts p (by simp [e])))
  refine r2.app ?_
  have r3 := Runs.each (gl := gl) g.anchors anL (fun d => gst s s.f.glyphs ⟨g.name, g.advance, g.mark, g.points, g.ends, g.parts, d, [], []⟩) (fun p hp => ok_anL ⟨(h.anch p hp).1, (h.anch p hp).2.1⟩) (fun done p rest e => st_anL (h.anch p (by simp [e])))
  refine r3.app ?_
  have r4 := Runs.each (gl := gl) g.deltas deL (fun d => gst s s.f.glyphs ⟨g.name, g.advance, g.mark, g.points, g.ends, g.parts, g.anchors, d, []⟩) (fun p hp => ok_deL p) (fun done p rest e => st_deL (h.dels p (by simp [e])))
  refine r4.app ?_
  split
  · have := Runs.one (gl := gl) (ok_code h.hint (by decide : tokB sHint = true)) (st_hiL (gl := gl) (s := s) (init := s.f.glyphs) (g := ⟨g.name, g.advance, g.mark, g.points, g.ends, g.parts, g.anchors, g.deltas, []⟩) h.hint)
    exact this
  · rename_i hn
    have e : g.hint = [] := by
      cases hh : g.hint with
      | nil => rfl
      | cons a r => rw [hh] at hn; simp at hn
    have e2 : g = ⟨g.name, g.advance, g.mark, g.points, g.ends, g.parts, g.anchors, g.deltas, []⟩ := by
      conv => rhs; rw [← e]
    conv => arg 4; rw [e2]
    exact .nil _ _
theorem runs_glyphs {gl : Gl} {gs : List Glyph} (hg : GlOk gl gs) (all : Bool) (h : ∀ g ∈ gs, OkG gs.length g) (s : PS) (hs : s.f.glyphs = []) : Runs gl s (gs.flatMap (glyL gs all)) { s with f := { s.f with glyphs := gs } } := by
  have key := Runs.eachF (gl := gl) gs (glyL gs all) (fun d => { s with f := { s.f with glyphs := d } }) (fun done g rest e => ?_)
  · have e : ({ s with f := { s.f with glyphs := [] } } : PS) = s := by rw [← hs]
    rw [e] at key
    exact key
  · exact runs_glyph hg all { s with f := { s.f with glyphs := done } } g (h g (by simp [e])) (hg.at' done.length g (by rw [e]; simp))
theorem runs_axes {gl : Gl} (l : List Axis) (h : ∀ a ∈ l, nameB a.name = true ∧ N9 a.min' ∧ N9 a.def' ∧ N9 a.max') (s : PS) (hs : s.f.axes = []) : Runs gl s (l.map axL) { s with f := { s.f with axes := l } } := by
  have key := Runs.each (gl := gl) l axL (fun d => { s with f := { s.f with axes := d } }) (fun a ha => ok_axL (h a ha).1) (fun done a rest e => st_axL (h a (by simp [e])))
  have e : ({ s with f := { s.f with axes := [] } } : PS) = s := by rw [← hs]
  rw [e] at key
  exact key
theorem runs_regs {gl : Gl} (l : List Region) (h : ∀ r ∈ l, ∀ t ∈ r.tents, N9 t.start ∧ N9 t.peak ∧ N9 t.stop) (s : PS) (hs : s.f.regions = []) : Runs gl s (l.map rgL) { s with f := { s.f with regions := l } } := by
  have key := Runs.each (gl := gl) l rgL (fun d => { s with f := { s.f with regions := d } }) (fun a ha => ok_rgL a) (fun done a rest e => st_rgL (h a (by simp [e])))
  have e : ({ s with f := { s.f with regions := [] } } : PS) = s := by rw [← hs]
  rw [e] at key
  exact key
theorem runs_funcs {gl : Gl} (l : List (List Ins)) (h : ∀ p ∈ l, OkC p) (s : PS) (hs : s.f.funcs = []) : Runs gl s (l.map fnL) { s with f := { s.f with funcs := l } } := by
  have key := Runs.each (gl := gl) l fnL (fun d => { s with f := { s.f with funcs := d } }) (fun a ha => ok_code (h a ha) (by decide)) (fun done a rest e => st_fnL (h a (by simp [e])))
  have e : ({ s with f := { s.f with funcs := [] } } : PS) = s := by rw [← hs]
  rw [e] at key
  exact key
theorem runs_chars {gl : Gl} {gs : List Glyph} (hg : GlOk gl gs) (l : List Chr) (h : ∀ c ∈ l, N9 c.rune ∧ In gs.length c.glyph) (s : PS) (hs : s.f.chars = []) : Runs gl s (l.map (chL gs)) { s with f := { s.f with chars := l } } := by
  have key := Runs.each (gl := gl) l (chL gs) (fun d => { s with f := { s.f with chars := d } }) (fun a ha => ok_chL hg (h a ha).2) (fun done a rest e => st_chL hg (h a (by simp [e])))
  have e : ({ s with f := { s.f with chars := [] } } : PS) = s := by rw [← hs]
  rw [e] at key
  exact key
theorem runs_feats {gl : Gl} (l : List Feature) (h : ∀ x ∈ l, nameB x.name = true ∧ ∀ n ∈ x.lookups, N9 n) (s : PS) (hs : s.f.features = []) : Runs gl s (l.map ftL) { s with f := { s.f with features := l } } := by
  have key := Runs.each (gl := gl) l ftL (fun d => { s with f := { s.f with features := d } }) (fun a ha => ok_ftL (h a ha).1) (fun done a rest e => st_ftL (h a (by simp [e])))
  have e : ({ s with f := { s.f with features := [] } } : PS) = s := by rw [← hs]
  rw [e] at key
  exact key
def luL (gs : List Glyph) (ws : List (List Int) → List B) (l : Lookup) : List (List B) := lkL l :: l.rules.map (fun r => sRule :: (ws r.back ++ [47] :: ws r.in' ++ [47] :: ws r.ahead ++ [62] :: outW gs l.kind r))
theorem runs_lookups {gl : Gl} {gs : List Glyph} (hg : GlOk gl gs) (hn : gs.length ≤ 1000) (l : List Lookup) (h : ∀ x ∈ l, 1 ≤ x.kind ∧ x.kind ≤ 8 ∧ ∀ r ∈ x.rules, OkR gs.length x.kind r) (ws : List (List Int) → List B)
    (hw : ∀ x : List (List Int), (∀ y ∈ x, ∀ n ∈ y, In gs.length n) → SetWs gs (ws x) x ∧ ∀ w ∈ ws x, tokB w = true) (s : PS) (hs : s.f.lookups = []) : Runs gl s (l.flatMap (luL gs ws)) { s with f := { s.f with lookups := l } } := by
  have key := Runs.eachF (gl := gl) l (luL gs ws) (fun d => { s with f := { s.f with lookups := d } }) (fun done x rest e => by
    obtain ⟨h1, h2, h3⟩ := h x (by simp [e])
    exact runs_lookup hg hn { s with f := { s.f with lookups := done } } x ⟨h1, h2⟩ h3 ws hw)
  have e : ({ s with f := { s.f with lookups := [] } } : PS) = s := by rw [← hs]
  rw [e] at key
  exact key
theorem runs_unit {gl : Gl} {u : Int} (h : N9 u) : Runs gl ps0 [[sUnit, itB u]] { ps0 with unit := true, f := { f0 with unit := u } } := by
  refine .one (tok_all2 (by decide) (by simpa using it_tok u)) ?_
  rw [st_unit]
  simp [rUnit, eNum_ok _ h, (it_num _ h).2, ps0, f0]
/-- unparse's lines -/
def fontL (f : Fnt) : List (List B) :=
  [[sUnit, itB f.unit]] ++ (f.axes.map axL ++ (f.regions.map rgL ++ ((if f.cvt.isEmpty then [] else [sCvt :: f.cvt.map itB]) ++ (f.funcs.map fnL ++ (f.glyphs.flatMap (glyL f.glyphs false) ++ (f.chars.map (chL f.glyphs) ++ (f.lookups.flatMap (luL f.glyphs (setsW f.glyphs)) ++ f.features.map ftL)))))))
/-- the reference's lines -/
def sourceL (f : Fnt) : List (List B) :=
  [[sUnit, itB f.unit]] ++ (f.axes.map axL ++ (f.regions.map rgL ++ (f.cvt.map (fun n => [sCvt, itB n]) ++ (f.funcs.map fnL ++ (f.lookups.flatMap (luL f.glyphs (setsV f.glyphs)) ++ (f.glyphs.flatMap (glyL f.glyphs true) ++ (f.chars.map (chL f.glyphs) ++ f.features.map ftL)))))))
theorem fontL_runs {gl : Gl} {f : Fnt} (h : RightF f) (hg : GlOk gl f.glyphs) : Runs gl ps0 (fontL f) ⟨f, true, []⟩ := by
  refine (runs_unit h.unit).app ?_
  refine (runs_axes f.axes h.axes _ rfl).app ?_
  refine (runs_regs f.regions h.regs _ rfl).app ?_
  have rc : ∀ s : PS, s.f.cvt = [] → Runs gl s (if f.cvt.isEmpty then [] else [sCvt :: f.cvt.map itB]) { s with f := { s.f with cvt := f.cvt } } := fun s hs => by
    split
    · rename_i he
      have e : f.cvt = [] := by simpa using he
      have e2 : ({ s with f := { s.f with cvt := f.cvt } } : PS) = s := by rw [e, ← hs]
      rw [e2]
      exact .nil _ _
    · have := Runs.one (gl := gl) (tok_all2 (by decide : tokB sCvt = true) (tok_its f.cvt)) (st_cvL (s := s) h.cvt)
      rw [hs] at this
      exact this
  refine (rc _ rfl).app ?_
  refine (runs_funcs f.funcs h.funcs _ rfl).app ?_
  refine (runs_glyphs hg false h.glyphs _ rfl).app ?_
  refine (runs_chars hg f.chars h.chars _ rfl).app ?_
  refine (runs_lookups hg h.few f.lookups h.lookups (setsW f.glyphs) (fun x hx => ⟨setsW_ws hg x hx, fun w hw => (setW_words hg x hx w hw).2.2⟩) _ rfl).app ?_
  exact runs_feats f.features h.feats _ rfl
theorem sourceL_runs {gl : Gl} {f : Fnt} (h : RightF f) (hg : GlOk gl f.glyphs) : Runs gl ps0 (sourceL f) ⟨f, true, []⟩ := by
  refine (runs_unit h.unit).app ?_
  refine (runs_axes f.axes h.axes _ rfl).app ?_
  refine (runs_regs f.regions h.regs _ rfl).app ?_
  have rc : ∀ s : PS, s.f.cvt = [] → Runs gl s (f.cvt.map (fun n => [sCvt, itB n])) { s with f := { s.f with cvt := f.cvt } } := fun s hs => by
    have key := Runs.each (gl := gl) f.cvt (fun n => [sCvt, itB n]) (fun d => { s with f := { s.f with cvt := d } }) (fun n _ => tok_all2 (by decide) (by simpa using it_tok n)) (fun done n rest e => by
      have := st_cvL (gl := gl) (s := { s with f := { s.f with cvt := done } }) (l := [n]) (by simpa using h.cvt n (by simp [e]))
      simpa using this)
    have e : ({ s with f := { s.f with cvt := [] } } : PS) = s := by rw [← hs]
    rw [e] at key
    exact key
  refine (rc _ rfl).app ?_
  refine (runs_funcs f.funcs h.funcs _ rfl).app ?_
  refine (runs_lookups hg h.few f.lookups h.lookups (setsV f.glyphs) (fun x hx => ⟨setsV_ws hg x hx, fun w hw => (setsV_words hg x hx w hw).2.2⟩) _ rfl).app ?_
  refine (runs_glyphs hg true h.glyphs _ rfl).app ?_
  refine (runs_chars hg f.chars h.chars _ rfl).app ?_
  exact runs_feats f.features h.feats _ rfl
/-- the names of glyphs -/
def noG (L : List (List B)) : Prop := ∀ l ∈ L, ∀ w r, l = w :: r → w ≠ sGlyph
theorem gnames_no (L R : List (List B)) (h : noG L) (n : Nat) : gnames n (L ++ R) = gnames n R := by
  induction L with
  | nil => rfl
  | cons l L ih =>
    have := ih (fun x hx => h x (by simp [hx]))
    cases l with
    | nil => rw [List.cons_append, gnames_nil]; exact this
    | cons w r =>
      rw [List.cons_append, gnames_cons, if_neg (h (w :: r) (by simp) w r rfl)]
      exact this
theorem noG_app {a b : List (List B)} (ha : noG a) (hb : noG b) : noG (a ++ b) := fun l hl => by
  rw [List.mem_append] at hl
  rcases hl with hl | hl
  · exact ha l hl
  · exact hb l hl
theorem noG_map {α : Type} (l : List α) (f : α → List B) (h : ∀ x ∈ l, ∀ w r, f x = w :: r → w ≠ sGlyph) : noG (l.map f) := fun y hy => by
  rw [List.mem_map] at hy
  obtain ⟨x, hx, rfl⟩ := hy
  exact h x hx
theorem noG_flat {α : Type} (l : List α) (f : α → List (List B)) (h : ∀ x ∈ l, noG (f x)) : noG (l.flatMap f) := fun y hy => by
  rw [List.mem_flatMap] at hy
  obtain ⟨x, hx, hy⟩ := hy
  exact h x hx y hy
def namesFrom : Nat → List Glyph → Gl
  | _, [] => []
  | n, g :: gs => (g.name, n) :: namesFrom (n + 1) gs
theorem gnames_glyphs (G : List Glyph) (all : Bool) (gs : List Glyph) (hn : ∀ g ∈ gs, nameB g.name = true) (R : List (List B)) (hR : noG R) (n : Nat) : gnames n (gs.flatMap (glyL G all) ++ R) = namesFrom n gs := by
  induction gs generalizing n with
  | nil => simpa [namesFrom, gnames] using gnames_no R [] hR n
  | cons g gs ih =>
    have hno : noG ((contsFrom g.points 0 g.ends).map coL ++ (g.parts.map (paL G) ++ (g.anchors.map anL ++ (g.deltas.map deL ++ if all || !g.hint.isEmpty then [hiL g.hint] else [])))) := by
      refine noG_app (noG_map _ _ fun x _ w r e => ?_) (noG_app (noG_map _ _ fun x _ w r e => ?_) (noG_app (noG_map _ _ fun x _ w r e => ?_) (noG_app (noG_map _ _ fun x _ w r e => ?_) ?_)))
      · injection e with e _; rw [← e]; decide
      · injection e with e _; rw [← e]; decide
      · injection e with e _; rw [← e]; decide
      · injection e with e _; rw [← e]; decide
      · split
        · intro l hl w r e
          simp only [List.mem_singleton] at hl
          subst hl
          injection e with e _
          rw [← e]
          decide
        · intro l hl
          simp at hl
    rw [List.flatMap_cons, glyL, List.cons_append, List.cons_append, gyL, gnames_cons, if_pos rfl, gname1]
    simp only [hn g (by simp), if_true]
    rw [List.append_assoc, gnames_no _ _ hno, ih (fun x hx => hn x (by simp [hx]))]
    rfl
theorem names_at (gs : List Glyph) (h : (gs.map (·.name)).Nodup) (n : Nat) (i : Nat) (g : Glyph) (hi : gs[i]? = some g) : (namesFrom n gs).lookup g.name = some (n + i) := by
  induction gs generalizing n i with
  | nil => simp at hi
  | cons a gs ih =>
    rw [List.map_cons, List.nodup_cons] at h
    cases i with
    | zero =>
      simp only [List.getElem?_cons_zero, Option.some.injEq] at hi
      subst hi
      simp [namesFrom, List.lookup]
    | succ i =>
      simp only [List.getElem?_cons_succ] at hi
      have hne : g.name ≠ a.name := fun e => h.1 (by rw [← e]; exact List.mem_map_of_mem (List.mem_of_getElem? hi))
      have hb : (g.name == a.name) = false := by simpa using hne
      rw [namesFrom, List.lookup, hb]
      show (namesFrom (n + 1) gs).lookup g.name = _
      rw [ih h.2 (n + 1) i hi]
      congr 1
      omega
theorem noG_lu (gs : List Glyph) (ws : List (List Int) → List B) (l : List Lookup) : noG (l.flatMap (luL gs ws)) := noG_flat _ _ fun x _ => by
  intro y hy w r e
  rw [luL, List.mem_cons, List.mem_map] at hy
  rcases hy with rfl | ⟨q, _, rfl⟩
  · injection e with e _; rw [← e]; decide
  · injection e with e _; rw [← e]; decide
theorem noG_ax (l : List Axis) : noG (l.map axL) := noG_map _ _ fun x _ w r e => by injection e with e _; rw [← e]; decide
theorem noG_rg (l : List Region) : noG (l.map rgL) := noG_map _ _ fun x _ w r e => by injection e with e _; rw [← e]; decide
theorem noG_fn (l : List (List Ins)) : noG (l.map fnL) := noG_map _ _ fun x _ w r e => by injection e with e _; rw [← e]; decide
theorem noG_ch (gs : List Glyph) (l : List Chr) : noG (l.map (chL gs)) := noG_map _ _ fun x _ w r e => by injection e with e _; rw [← e]; decide
theorem noG_ft (l : List Feature) : noG (l.map ftL) := noG_map _ _ fun x _ w r e => by injection e with e _; rw [← e]; decide
theorem noG_un (u : B) : noG [[sUnit, u]] := fun l hl w r e => by
  simp only [List.mem_singleton] at hl
  subst hl
  injection e with e _
  rw [← e]
  decide
theorem font_names {f : Fnt} (h : RightF f) : GlOk (gnames 0 (fontL f)) f.glyphs := by
  have hc : noG (if f.cvt.isEmpty then [] else [sCvt :: f.cvt.map itB]) := by
    split
    · intro l hl; simp at hl
    · intro l hl w r e
      simp only [List.mem_singleton] at hl
      subst hl
      injection e with e _
      rw [← e]
      decide
  have e : gnames 0 (fontL f) = namesFrom 0 f.glyphs := by
    rw [fontL, gnames_no _ _ (noG_un _), gnames_no _ _ (noG_ax _), gnames_no _ _ (noG_rg _), gnames_no _ _ hc, gnames_no _ _ (noG_fn _)]
    exact gnames_glyphs _ _ _ (fun g hg => (h.glyphs g hg).name) _ (noG_app (noG_ch _ _) (noG_app (noG_lu _ _ _) (noG_ft _))) 0
  rw [e]
  exact ⟨fun i g hi => by rw [names_at _ h.apart 0 i g hi, Nat.zero_add], fun g hg => (h.glyphs g hg).name⟩
theorem source_names {f : Fnt} (h : RightF f) : GlOk (gnames 0 (sourceL f)) f.glyphs := by
  have e : gnames 0 (sourceL f) = namesFrom 0 f.glyphs := by
    rw [sourceL, gnames_no _ _ (noG_un _), gnames_no _ _ (noG_ax _), gnames_no _ _ (noG_rg _), gnames_no _ _ (noG_map _ _ fun x _ w r e => by injection e with e _; rw [← e]; decide), gnames_no _ _ (noG_fn _), gnames_no _ _ (noG_lu _ _ _)]
    exact gnames_glyphs _ _ _ (fun g hg => (h.glyphs g hg).name) _ (noG_app (noG_ch _ _) (noG_ft _)) 0
  rw [e]
  exact ⟨fun i g hi => by rw [names_at _ h.apart 0 i g hi, Nat.zero_add], fun g hg => (h.glyphs g hg).name⟩
theorem parse_lines (L : List (List B)) (f : Fnt) (b : Bool) (c : List (B × List Int)) (h : Runs (gnames 0 L) ps0 L ⟨f, b, c⟩) : parseL (L.flatMap lnB) = .ok f := by
  rw [parseL, linesT_src L h.1, enumL_snd, h.2 1]
  rfl
theorem flat_map {α : Type} (l : List α) (f : α → List B) : (l.map f).flatMap lnB = l.flatMap (fun x => lnB (f x)) := by
  induction l with
  | nil => rfl
  | cons a r ih => simp [ih]
theorem glyph_lines (gs : List Glyph) (g : Glyph) : (glyL gs false g).flatMap lnB = glyphB gs g := by
  rw [glyL, glyphB]
  simp only [List.flatMap_cons, List.flatMap_append, flat_map, List.append_assoc]
  congr 1
  congr 1
  congr 1
  congr 1
  congr 1
  cases h : g.hint.isEmpty <;> simp [hiL, lnB]
theorem lookup_lines (gs : List Glyph) (l : Lookup) : (luL gs (setsW gs) l).flatMap lnB = lookupB gs l := by
  rw [luL, lookupB]
  simp only [List.flatMap_cons, flat_map]
  rfl
theorem font_lines (f : Fnt) : (fontL f).flatMap lnB = fontB f := by
  rw [fontL, fontB]
  simp only [List.flatMap_append, flat_map, List.append_assoc, List.flatMap_cons, List.flatMap_nil, List.append_nil, List.flatMap_assoc, glyph_lines, lookup_lines]
  congr 1
  congr 1
  congr 1
  congr 1
  cases h : f.cvt.isEmpty <;> simp [lnB]
/-- what is printed of a right font is parsed as that font -/
theorem parse_font {f : Fnt} (h : RightF f) : parseL (fontB f) = .ok f := by
  rw [← font_lines]
  exact parse_lines _ _ _ _ (fontL_runs h (font_names h))
/-- the reference's source -/
def sourceB (f : Fnt) : B := (sourceL f).flatMap lnB
theorem parse_source {f : Fnt} (h : RightF f) : parseL (sourceB f) = .ok f := parse_lines _ _ _ _ (sourceL_runs h (source_names h))
/-- unlike fonts have unlike sources -/
theorem fontB_inj {f g : Fnt} (hf : RightF f) (hg : RightF g) (h : fontB f = fontB g) : f = g := by
  have h1 := parse_font hf
  have h2 := parse_font hg
  rw [h, h2] at h1
  injection h1 with h1
  exact h1.symm
end Go.Proofs.YtkijckccfookeaaGreatDoor
