/- Plain Lean: a small font's sources are short. -/
import Derived.Test.YtkijckccfookeaaGreatDoorRTe
namespace Go.Proofs.YtkijckccfookeaaGreatDoor
open Go.RowKit

theorem flat_le {α β : Type} (l : List α) (f : α → List β) (k n : Nat) (h : ∀ x ∈ l, (f x).length ≤ k) (hl : l.length ≤ n) : (l.flatMap f).length ≤ n * k := by
  have : (l.flatMap f).length ≤ l.length * k := by
    clear hl
    induction l with
    | nil => simp
    | cons a r ih =>
      rw [List.flatMap_cons, List.length_append, List.length_cons, Nat.add_mul]
      have := h a (by simp)
      have := ih (fun x hx => h x (by simp [hx]))
      omega
  exact Nat.le_trans this (Nat.mul_le_mul_right k hl)
theorem it_len (n : Int) (h : N9 n) : (itB n).length ≤ 10 := by
  unfold N9 at h
  unfold itB Lib.itoa
  split
  · have := (dec_len n.natAbs (by omega)).2
    rw [List.length_cons]
    omega
  · have := (dec_len n.toNat (by omega)).2
    omega
theorem name_len {s : B} (h : nameB s = true) : s.length ≤ 16 := by
  rw [nameB, Bool.and_eq_true, decide_eq_true_iff] at h
  exact h.1.2
/-- short words -/
def W32 (l : List B) : Prop := ∀ w ∈ l, w.length ≤ 32
theorem W32.nil : W32 [] := fun w h => by simp at h
theorem W32.cons {w : B} {l : List B} (h : w.length ≤ 32) (k : W32 l) : W32 (w :: l) := fun x hx => by
  rw [List.mem_cons] at hx
  rcases hx with rfl | hx
  · exact h
  · exact k x hx
theorem W32.app {a b : List B} (h : W32 a) (k : W32 b) : W32 (a ++ b) := fun x hx => by
  rw [List.mem_append] at hx
  rcases hx with hx | hx
  · exact h x hx
  · exact k x hx
theorem W32.map {α : Type} {l : List α} {f : α → B} (h : ∀ x ∈ l, (f x).length ≤ 32) : W32 (l.map f) := fun w hw => by
  rw [List.mem_map] at hw
  obtain ⟨x, hx, rfl⟩ := hw
  exact h x hx
theorem W32.flat {α : Type} {l : List α} {f : α → List B} (h : ∀ x ∈ l, W32 (f x)) : W32 (l.flatMap f) := fun w hw => by
  rw [List.mem_flatMap] at hw
  obtain ⟨x, hx, hw⟩ := hw
  exact h x hx w hw
theorem W32.it {l : List Int} (h : ∀ n ∈ l, N9 n) : W32 (l.map itB) := W32.map fun n hn => Nat.le_trans (it_len n (h n hn)) (by decide)
theorem more_len (l : List B) (h : W32 l) : (moreB l).length ≤ 33 * l.length := by
  have : (moreB l).length ≤ l.length * 33 := flat_le l _ 33 l.length (fun w hw => by rw [List.length_cons]; have := h w hw; omega) (Nat.le_refl _)
  omega
/-- lines of at most k bytes in all -/
def Lk (L : List (List B)) (k : Nat) : Prop := (L.flatMap lnB).length ≤ k
theorem Lk.line {l : List B} {n : Nat} (h : W32 l) (hl : l.length ≤ n) : Lk [l] (33 * n + 1) := by
  unfold Lk
  cases l with
  | nil => simp [lnB]
  | cons w r =>
    simp only [List.flatMap_cons, List.flatMap_nil, List.append_nil, lnB, lineB, List.length_append, List.length_cons, List.length_nil]
    have h1 := h w (by simp)
    have h2 := more_len r (fun x hx => h x (by simp [hx]))
    rw [List.length_cons] at hl
    omega
theorem Lk.mono {L : List (List B)} {k n : Nat} (h : Lk L k) (hk : k ≤ n) : Lk L n := Nat.le_trans h hk
theorem Lk.nil (k : Nat) : Lk [] k := Nat.zero_le _
theorem Lk.app {a b : List (List B)} {k n : Nat} (h : Lk a k) (g : Lk b n) : Lk (a ++ b) (k + n) := by
  unfold Lk at *
  rw [List.flatMap_append, List.length_append]
  omega
theorem Lk.cons {l : List B} {b : List (List B)} {k n : Nat} (h : Lk [l] k) (g : Lk b n) : Lk (l :: b) (k + n) := h.app g
theorem Lk.map {α : Type} {l : List α} {f : α → List B} {k n : Nat} (h : ∀ x ∈ l, Lk [f x] k) (hl : l.length ≤ n) : Lk (l.map f) (n * k) := by
  unfold Lk at *
  rw [flat_map]
  exact flat_le l _ k n (fun x hx => by have := h x hx; simpa using this) hl
theorem Lk.flat {α : Type} {l : List α} {f : α → List (List B)} {k n : Nat} (h : ∀ x ∈ l, Lk (f x) k) (hl : l.length ≤ n) : Lk (l.flatMap f) (n * k) := by
  unfold Lk at *
  rw [List.flatMap_assoc]
  exact flat_le l _ k n h hl

structure SmR (r : Rule) : Prop where
  rows : r.back.length ≤ 3 ∧ r.in'.length ≤ 3 ∧ r.ahead.length ≤ 3
  sets : (∀ s ∈ r.back, s.length ≤ 4) ∧ (∀ s ∈ r.in', s.length ≤ 4) ∧ ∀ s ∈ r.ahead, s.length ≤ 4
  outs : r.out.length ≤ 4 ∧ r.calls.length ≤ 2
structure SmG (g : Glyph) : Prop where
  pts : g.points.length ≤ 12
  ends : g.ends.length ≤ 2
  parts : g.parts.length ≤ 1
  anch : g.anchors.length ≤ 5
  dels : g.deltas.length ≤ 40
  hint : g.hint.length ≤ 60
structure SmF (f : Fnt) : Prop where
  glyphs : f.glyphs.length ≤ 10 ∧ ∀ g ∈ f.glyphs, SmG g
  chars : f.chars.length ≤ 16
  lookups : f.lookups.length ≤ 6 ∧ ∀ l ∈ f.lookups, l.rules.length ≤ 3 ∧ ∀ r ∈ l.rules, SmR r
  feats : f.features.length ≤ 8 ∧ ∀ x ∈ f.features, x.lookups.length ≤ 6
  axes : f.axes.length ≤ 2
  regs : f.regions.length ≤ 3 ∧ ∀ r ∈ f.regions, r.tents.length ≤ 2
  funcs : f.funcs.length ≤ 2 ∧ ∀ p ∈ f.funcs, p.length ≤ 60
  cvt : f.cvt.length ≤ 3

theorem op_len : ∀ s ∈ opNames, s.length ≤ 8 := by decide
theorem kind_len : ∀ s ∈ kindNames, s.length ≤ 9 := by decide
theorem anch_lenS : ∀ s ∈ anchorNames, s.length ≤ 9 := by decide
theorem pick_len (l : List B) (k : Nat) (h : ∀ s ∈ l, s.length ≤ k) (hk : 1 ≤ k) (n : Int) : (pick l n).length ≤ k := by
  unfold pick
  split
  · exact hk
  · cases e : l[(n - 1).toNat]? with
    | none => exact hk
    | some s => exact h s (List.mem_of_getElem? e)
theorem gn_len {gs : List Glyph} (h : ∀ g ∈ gs, nameB g.name = true) {n : Int} (hn : In gs.length n) : (gnB gs n).length ≤ 32 := by
  obtain ⟨h1, h2⟩ := hn
  have e : gs[n.toNat]? = some (gs[n.toNat]'(by omega)) := List.getElem?_eq_getElem (by omega)
  unfold gnB
  rw [if_neg (by omega), e]
  exact Nat.le_trans (name_len (h _ (List.getElem_mem _))) (by decide)
theorem ins_len {i : Ins} (h : N9 i.a) : (insB i).length ≤ 32 := by
  have h1 := pick_len opNames 8 op_len (by decide) i.op
  have h2 := it_len i.a h
  unfold insB opB
  rw [List.length_append]
  split
  · simp only [List.length_nil]; omega
  · rw [List.length_cons]; omega
theorem pt_len {p : Pt} (h : N9 p.x ∧ N9 p.y) : (ptB p).length ≤ 32 := by
  have h1 := it_len p.x h.1
  have h2 := it_len p.y h.2
  unfold ptB
  simp only [List.length_append, List.length_cons]
  split
  · simp only [List.length_nil]; omega
  · simp only [List.length_cons, List.length_nil]; omega
theorem call_len {c : Call} (h : N9 c.at' ∧ N9 c.lookup) : (itB c.at' ++ 58 :: itB c.lookup).length ≤ 32 := by
  have h1 := it_len c.at' h.1
  have h2 := it_len c.lookup h.2
  simp only [List.length_append, List.length_cons]
  omega
theorem n32 {n : Int} (h : N9 n) : (itB n).length ≤ 32 := Nat.le_trans (it_len n h) (by decide)
theorem code32 {p : List Ins} (h : OkC p) : W32 (p.map insB) := W32.map fun i hi => ins_len (h i hi).2.2
theorem lk_code {p : List Ins} (h : OkC p) (hl : p.length ≤ 60) {a : B} (ha : a.length ≤ 32) : Lk [a :: p.map insB] 2014 := Lk.line (n := 61) (.cons ha (code32 h)) (by rw [List.length_cons, List.length_map]; omega)
theorem conts_len (pts : List Pt) (es : List Int) : ∀ fr, (contsFrom pts fr es).length ≤ es.length ∧ ∀ c ∈ contsFrom pts fr es, c.length ≤ pts.length ∧ ∀ p ∈ c, p ∈ pts := by
  induction es with
  | nil => intro fr; simp [contsFrom]
  | cons e es ih =>
    intro fr
    rw [contsFrom]
    split
    · simp
    · obtain ⟨h1, h2⟩ := ih (e.toNat + 1)
      refine ⟨by simp only [List.length_cons]; omega, fun c hc => ?_⟩
      rw [List.mem_cons] at hc
      rcases hc with rfl | hc
      · refine ⟨?_, fun p hp => List.mem_of_mem_take (List.mem_of_mem_drop hp)⟩
        rw [List.length_drop, List.length_take]
        omega
      · exact h2 c hc
theorem lk_glyph {gs : List Glyph} (hn : ∀ g ∈ gs, nameB g.name = true) (all : Bool) {g : Glyph} (h : OkG gs.length g) (hs : SmG g) : Lk (glyL gs all g) 10610 := by
  unfold glyL
  have e : 10610 = 133 + (2 * 430 + (1 * 133 + (5 * 166 + (40 * 166 + 2014)))) := rfl
  rw [e]
  obtain ⟨c1, c2⟩ := conts_len g.points g.ends 0
  refine .cons (Lk.line (n := 4) (.cons (by decide) (.cons (Nat.le_trans (name_len h.name) (by decide)) (.cons (n32 h.adv) ?_))) ?_) (.app (.map (fun c hc => ?_) (Nat.le_trans c1 hs.ends)) (.app (.map (fun p hp => ?_) hs.parts) (.app (.map (fun a ha => ?_) hs.anch) (.app (.map (fun d hd => ?_) hs.dels) ?_))))
  · split
    · exact .cons (by decide) .nil
    · exact .nil
  · unfold gyL
    simp only [List.length_cons]
    split <;> simp
  · obtain ⟨d1, d2⟩ := c2 c hc
    exact Lk.line (n := 13) (.cons (by decide) (.map fun p hp => pt_len (h.pts p (d2 p hp)))) (by unfold coL; rw [List.length_cons, List.length_map]; have := hs.pts; omega)
  · have := h.parts p hp
    exact Lk.line (n := 4) (.cons (by decide) (.cons (gn_len hn this.1) (.cons (n32 this.2.1) (.cons (n32 this.2.2) .nil)))) (by simp [paL])
  · have := h.anch a ha
    exact Lk.line (n := 5) (.cons (by decide) (.cons (Nat.le_trans (pick_len _ 9 anch_lenS (by decide) _) (by decide)) (.cons (n32 this.2.2.1) (.cons (n32 this.2.2.2.1) (.cons (n32 this.2.2.2.2) .nil))))) (by simp [anL])
  · have := h.dels d hd
    exact Lk.line (n := 5) (.cons (by decide) (.cons (n32 this.1) (.cons (n32 this.2.1) (.cons (n32 this.2.2.1) (.cons (n32 this.2.2.2) .nil))))) (by simp [deL])
  · split
    · exact lk_code h.hint hs.hint (by decide)
    · exact .nil _
/-- words of sets -/
theorem sets32 {gs : List Glyph} (hn : ∀ g ∈ gs, nameB g.name = true) {ws : List (List Int) → List B} (hw : ∀ l, (∀ s ∈ l, ∀ n ∈ s, In gs.length n) → (∀ s ∈ l, s.length ≤ 4) → l.length ≤ 3 → W32 (ws l) ∧ (ws l).length ≤ 18) {kind : Int} {r : Rule} (h : OkR gs.length kind r) (hs : SmR r) :
    Lk [sRule :: (ws r.back ++ [47] :: ws r.in' ++ [47] :: ws r.ahead ++ [62] :: outW gs kind r)] 2047 := by
  obtain ⟨a1, a2⟩ := hw r.back (fun s hs => (h.back s hs).2) hs.sets.1 hs.rows.1
  obtain ⟨b1, b2⟩ := hw r.in' (fun s hs => (h.in' s hs).2) hs.sets.2.1 hs.rows.2.1
  obtain ⟨c1, c2⟩ := hw r.ahead (fun s hs => (h.ahead s hs).2) hs.sets.2.2 hs.rows.2.2
  have ho : W32 (outW gs kind r) ∧ (outW gs kind r).length ≤ 4 := by
    unfold outW
    split
    · exact ⟨.map fun n hn' => gn_len hn (h.out n hn'), by rw [List.length_map]; exact hs.outs.1⟩
    · split
      · exact ⟨.map fun c hc => call_len (h.calls c hc), by rw [List.length_map]; have := hs.outs.2; omega⟩
      · split
        · exact ⟨.cons (n32 h.x) .nil, by simp⟩
        · exact ⟨.nil, by simp⟩
  refine Lk.line (n := 62) (.cons (by decide) ((((a1.app (.cons (by decide) b1)).app (.cons (by decide) c1))).app (.cons (by decide) ho.1))) ?_
  simp only [List.length_cons, List.length_append]
  omega
theorem lk_lookup {gs : List Glyph} (hn : ∀ g ∈ gs, nameB g.name = true) {ws : List (List Int) → List B} (hw : ∀ l, (∀ s ∈ l, ∀ n ∈ s, In gs.length n) → (∀ s ∈ l, s.length ≤ 4) → l.length ≤ 3 → W32 (ws l) ∧ (ws l).length ≤ 18) {l : Lookup}
    (h : ∀ r ∈ l.rules, OkR gs.length l.kind r) (hs : l.rules.length ≤ 3 ∧ ∀ r ∈ l.rules, SmR r) : Lk (luL gs ws l) 6241 := by
  unfold luL
  have e : 6241 = 100 + 3 * 2047 := rfl
  rw [e]
  refine .cons (Lk.line (n := 3) (.cons (by decide) (.cons (Nat.le_trans (pick_len _ 9 kind_len (by decide) _) (by decide)) ?_)) ?_) (.map (fun r hr => sets32 hn hw (h r hr) (hs.2 r hr)) hs.1)
  · split
    · exact .cons (by decide) .nil
    · exact .nil
  · unfold lkL
    simp only [List.length_cons]
    split <;> simp
theorem setsV32 {gs : List Glyph} (hn : ∀ g ∈ gs, nameB g.name = true) (l : List (List Int)) (h : ∀ s ∈ l, ∀ n ∈ s, In gs.length n) (h4 : ∀ s ∈ l, s.length ≤ 4) (h3 : l.length ≤ 3) : W32 (setsV gs l) ∧ (setsV gs l).length ≤ 18 := by
  unfold setsV
  refine ⟨.flat fun s hs => ?_, flat_le l _ 6 3 (fun s hs => ?_) h3⟩
  · exact (W32.cons (by decide) (.map fun n hn' => gn_len hn (h s hs n hn'))).app (.cons (by decide) .nil)
  · have := h4 s hs
    simp only [List.cons_append, List.length_cons, List.length_append, List.length_map, List.length_nil]
    omega
theorem setsW32 {gs : List Glyph} (hn : ∀ g ∈ gs, nameB g.name = true) (l : List (List Int)) (h : ∀ s ∈ l, ∀ n ∈ s, In gs.length n) (h4 : ∀ s ∈ l, s.length ≤ 4) (h3 : l.length ≤ 3) : W32 (setsW gs l) ∧ (setsW gs l).length ≤ 18 := by
  unfold setsW
  refine ⟨.flat fun s hs => ?_, flat_le l _ 6 3 (fun s hs => ?_) h3⟩
  · unfold setW
    split
    · exact .cons (gn_len hn (h _ hs _ (by simp))) .nil
    · exact (W32.cons (by decide) (.map fun n hn' => gn_len hn (h s hs n hn'))).app (.cons (by decide) .nil)
  · have := h4 s hs
    unfold setW
    split
    · simp
    · simp only [List.cons_append, List.length_cons, List.length_append, List.length_map, List.length_nil]
      omega
section
variable {f : Fnt} (h : RightF f) (hs : SmF f)
include h in
theorem small_names : ∀ g ∈ f.glyphs, nameB g.name = true := fun g hg => (h.glyphs g hg).name
include h hs in
theorem lk_axes : Lk (f.axes.map axL) 332 := .mono (.map (k := 166) (n := 2) (fun a ha => by
  have := h.axes a ha
  exact Lk.line (n := 5) (.cons (by decide) (.cons (Nat.le_trans (name_len this.1) (by decide)) (.cons (n32 this.2.1) (.cons (n32 this.2.2.1) (.cons (n32 this.2.2.2) .nil))))) (by simp [axL])) hs.axes) (by decide)
include h hs in
theorem lk_regs : Lk (f.regions.map rgL) 696 := .mono (.map (k := 232) (n := 3) (fun r hr => by
  have := h.regs r hr
  refine Lk.line (n := 7) (.cons (by decide) (.flat fun t ht => .cons (n32 (this t ht).1) (.cons (n32 (this t ht).2.1) (.cons (n32 (this t ht).2.2) .nil)))) ?_
  have := flat_le r.tents tentW 3 2 (fun t _ => by simp [tentW]) (hs.regs.2 r hr)
  unfold rgL
  rw [List.length_cons]
  omega) hs.regs.1) (by decide)
include h hs in
theorem lk_funcs : Lk (f.funcs.map fnL) 4028 := .mono (.map (k := 2014) (n := 2) (fun p hp => lk_code (h.funcs p hp) (hs.funcs.2 p hp) (by decide)) hs.funcs.1) (by decide)
include h hs in
theorem lk_glyphs (all : Bool) : Lk (f.glyphs.flatMap (glyL f.glyphs all)) 106100 := .mono (.flat (k := 10610) (n := 10) (fun g hg => lk_glyph (small_names h) all (h.glyphs g hg) (hs.glyphs.2 g hg)) hs.glyphs.1) (by decide)
include h hs in
theorem lk_chars : Lk (f.chars.map (chL f.glyphs)) 1600 := .mono (.map (k := 100) (n := 16) (fun c hc => Lk.line (n := 3) (.cons (by decide) (.cons (n32 (h.chars c hc).1) (.cons (gn_len (small_names h) (h.chars c hc).2) .nil))) (by simp [chL])) hs.chars) (by decide)
include h hs in
theorem lk_feats : Lk (f.features.map ftL) 2120 := .mono (.map (k := 265) (n := 8) (fun x hx => Lk.line (n := 8) (.cons (by decide) (.cons (Nat.le_trans (name_len (h.feats x hx).1) (by decide)) (.it (h.feats x hx).2))) (by
  have := hs.feats.2 x hx
  simp only [ftL, List.length_cons, List.length_map]
  omega)) hs.feats.1) (by decide)
include h in
theorem lk_unit : Lk [[sUnit, itB f.unit]] 67 := Lk.line (n := 2) (.cons (by decide) (.cons (n32 h.unit) .nil)) (by simp)
include h hs in
theorem source_len : (sourceB f).length ≤ 160000 := by
  have key : Lk (sourceL f) 160000 := by
    unfold sourceL
    have hl : Lk (f.lookups.flatMap (luL f.glyphs (setsV f.glyphs))) 37446 := .mono (.flat (k := 6241) (n := 6) (fun l hl => lk_lookup (small_names h) (setsV32 (small_names h)) (h.lookups l hl).2.2 (hs.lookups.2 l hl)) hs.lookups.1) (by decide)
    have hc : Lk (f.cvt.map (fun n => [sCvt, itB n])) 201 := .mono (.map (k := 67) (n := 3) (fun n hn => Lk.line (n := 2) (.cons (by decide) (.cons (n32 (h.cvt n hn)) .nil)) (by simp)) hs.cvt) (by decide)
    exact .mono ((lk_unit h).app ((lk_axes h hs).app ((lk_regs h hs).app (hc.app ((lk_funcs h hs).app (hl.app ((lk_glyphs h hs true).app ((lk_chars h hs).app (lk_feats h hs))))))))) (by decide)
  exact key
include h hs in
theorem font_len : (fontB f).length ≤ 160000 := by
  have key : Lk (fontL f) 160000 := by
    unfold fontL
    have hl : Lk (f.lookups.flatMap (luL f.glyphs (setsW f.glyphs))) 37446 := .mono (.flat (k := 6241) (n := 6) (fun l hl => lk_lookup (small_names h) (setsW32 (small_names h)) (h.lookups l hl).2.2 (hs.lookups.2 l hl)) hs.lookups.1) (by decide)
    have hc : Lk (if f.cvt.isEmpty then [] else [sCvt :: f.cvt.map itB]) 133 := by
      split
      · exact .nil _
      · exact Lk.line (n := 4) (.cons (by decide) (.it h.cvt)) (by have := hs.cvt; simp only [List.length_cons, List.length_map]; omega)
    exact .mono ((lk_unit h).app ((lk_axes h hs).app ((lk_regs h hs).app (hc.app ((lk_funcs h hs).app ((lk_glyphs h hs false).app ((lk_chars h hs).app (hl.app (lk_feats h hs))))))))) (by decide)
  rw [← font_lines]
  exact key
end
end Go.Proofs.YtkijckccfookeaaGreatDoor
