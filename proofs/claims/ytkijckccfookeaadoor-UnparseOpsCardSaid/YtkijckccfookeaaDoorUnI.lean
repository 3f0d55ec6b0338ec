/- unparse: Font. Printed by gen_font.py. -/
import Derived.Test.YtkijckccfookeaaDoorUnH
namespace Go.Proofs.YtkijckccfookeaaDoor
open Go.RowKit Go.Shelf Go.Sort

def cvtB (l : List Int) : B := if l.isEmpty then [] else lineB sCvt (l.map itB)
theorem fontB_eq (f : Fnt) : fontB f = lineB sUnit [itB f.unit] ++ f.axes.flatMap axisB ++ f.regions.flatMap regionB ++ cvtB f.cvt ++ f.funcs.flatMap funcB ++ f.glyphs.flatMap (glyphB f.glyphs) ++ f.chars.flatMap (charB f.glyphs) ++ f.lookups.flatMap (lookupB f.glyphs) ++ f.features.flatMap featureB := rfl
/-- the font's nine cells, one by one -/
def fcOf (l : List Value) (i : Nat) : Value := l.getD i undef
theorem glyphB_pos (gs : List Glyph) (x : Glyph) : 1 ≤ (glyphB gs x).length := by
  rw [glyphB_eq]
  have : 1 ≤ (gT1 x).length := line_pos _ _
  simp only [List.length_append]
  omega
theorem hint_le (gs : List Glyph) (x : Glyph) : x.hint.length ≤ (glyphB gs x).length := by
  rw [glyphB_eq]
  simp only [List.length_append]
  unfold hintB
  split
  · rename_i h
    have : x.hint = [] := by simpa using h
    rw [this]
    simp
  · have := line_words sHint (x.hint.map insB)
    rw [List.length_map] at this
    omega
theorem flat_mem {α : Type} (f : α → B) (l : List α) (x : α) (h : x ∈ l) : (f x).length ≤ (l.flatMap f).length := by
  obtain ⟨k, hk⟩ := List.mem_iff_getElem?.1 h
  have := flatB_take_succ_le f l k x hk
  omega
theorem lookupB_pos (gs : List Glyph) (x : Lookup) : 1 ≤ (lookupB gs x).length := by
  unfold lookupB
  have := line_pos sLookup (pick kindNames x.kind :: if x.ignore then [sIgnore] else [])
  rw [List.length_append]
  omega
theorem step_app {ops : Array Oper} {o : Oper} {a : Act} {K : Act → World → Prop} {Q : Exit → Act → World → Prop} {E : Prop} (hgd : o.guard = none) (s x : Operand)
    (ho : o.op = .call { callee := .builtin .append, args := #[s, x], argTypes := #[46, 46] })
    (w1 : World) (base n c : Nat) (A : Option Addr) (xs : List Value) (Bd : Nat) (A2 : Option Addr) (m c2 : Nat) (ws : List B) (hs : a.eval s = .slice A n c) (hx : a.eval x = .slice A2 m c2)
    (hown : w1.ownsRow base 9 1 (.slice A n c) n xs) (hr : Rd w1 Bd A2 m 1 (strs ws)) (hn : n + m ≤ 1000000000000) (hb : base ≤ w1.heap.size)
    (h : ∀ A' c' w', w'.ownsRow base 9 1 (.slice A' (n + m) c') (n + m) (xs ++ strs ws) → w1.grownBy w' (Value.slice A n c).ownBlock → K (a.put o.dst (.slice A' (n + m) c')) w') :
    if Region.wanted o (yielded ops a.tmps) = true then Oper.wp Tryd.prog o a w1 K Q else E := by
  obtain ⟨i0, hi0, hz0, hz1, hz2⟩ := info_parts infoStr
  refine step_append_any _ hgd s x 46 ho base 9 i0 _ 1 16 Tryd.underlying46 hi0 hz0 hz1 hz2 rfl (by decide) (.slice A n c) n xs hs hown Bd A2 m c2 (strs ws) hx hr (strs_one ws) (by simp only [maxLen]; omega) (by omega) hb ?_
  intro v' w' ho' hg _
  obtain ⟨A', c', rfl⟩ := own_form ho'
  exact h A' c' w' ho' hg
theorem lit_own (w : World) (base : Nat) (y : B) (h : base ≤ w.heap.size) : (w.alloc (.cells #[.string ⟨y.toArray⟩] 9)).ownsRow base 9 1 (.slice (some ⟨w.heap.size, 0, none⟩) 1 1) 1 [.string ⟨y.toArray⟩] :=
  ⟨rfl, .inr ⟨w.heap.size, 1, #[.string ⟨y.toArray⟩], rfl, h, heap_alloc_new w _, Nat.le_refl _, by decide, rfl, rfl⟩⟩
theorem rd_alloc {w : World} {A : Option Addr} {n size : Nat} {cs : List Value} {o : Obj} (h : Rd w w.heap.size A n size cs) : Rd (w.alloc o) w.heap.size A n size cs := h.alloc (Nat.le_refl _) o
theorem alloc_le {w : World} {o : Obj} {n : Nat} (h : n ≤ w.heap.size) : n ≤ (w.alloc o).heap.size := by simp; omega
set_option maxRecDepth 100000 in
set_option maxHeartbeats 8000000 in
theorem font_ok (w : World) (f : Fnt) A1 A2 A3 A4 A5 A6 A7 A8 c1 c2 c3 c4 c5 c6 c7 c8 (hT : Tabs w) (hG : nG ≤ w.heap.size) (r0 : I64 f.unit) (s1 : Sl GlyphR 9 w (FT w) A1 f.glyphs) (s2 : Sl ChrR 2 w (FT w) A2 f.chars) (s3 : Sl LookupR 3 w (FT w) A3 f.lookups) (s4 : Sl FeatureR 2 w (FT w) A4 f.features) (s5 : Sl AxisR 4 w (FT w) A5 f.axes) (s6 : Sl RegionR 1 w (FT w) A6 f.regions) (s7 : Sl CodeR 1 w (FT w) A7 f.funcs) (s8 : Sl IntR 1 w (FT w) A8 f.cvt)
    (hS : ∀ g ∈ f.glyphs, g.points.length ≤ 1000000000 ∧ g.ends.length ≤ 1000000000) (hL : (fontB f).length ≤ 1000000000) :
    Calls Tryd.prog 8 #[.agg #[.int .i64 f.unit, .slice A1 f.glyphs.length c1, .slice A2 f.chars.length c2, .slice A3 f.lookups.length c3, .slice A4 f.features.length c4, .slice A5 f.axes.length c5, .slice A6 f.regions.length c6, .slice A7 f.funcs.length c7, .slice A8 f.cvt.length c8]] w fun e w' => e = .returned (.string ⟨(fontB f).toArray⟩) ∧ Below w.heap.size w w' := by
  have HF := Lib.hid (fontB_eq f)
  rw [fontB_eq] at hL
  obtain ⟨T0, hT0e⟩ : ∃ T0, lineB sUnit [itB f.unit] = T0 := ⟨_, rfl⟩
  rw [hT0e] at hL HF
  have HT0 := Lib.hid hT0e
  have hlens : T0.length + (f.axes.flatMap axisB).length + (f.regions.flatMap regionB).length + (cvtB f.cvt).length + (f.funcs.flatMap funcB).length + (f.glyphs.flatMap (glyphB f.glyphs)).length + (f.chars.flatMap (charB f.glyphs)).length + (f.lookups.flatMap (lookupB f.glyphs)).length + (f.features.flatMap featureB).length ≤ 1000000000 := by
    simp only [List.length_append] at hL
    omega
  have hne : Hid (T0 ++ f.axes.flatMap axisB ++ f.regions.flatMap regionB ++ cvtB f.cvt ++ f.funcs.flatMap funcB ++ f.glyphs.flatMap (glyphB f.glyphs) ++ f.chars.flatMap (charB f.glyphs) ++ f.lookups.flatMap (lookupB f.glyphs) ++ f.features.flatMap featureB ≠ []) := Lib.hid (by
    intro h
    have := congrArg List.length h
    rw [← hT0e] at this
    have h2 := line_pos sUnit [itB f.unit]
    simp only [List.length_append, List.length_nil] at this
    omega)
  clear hT0e hL
  have n1 : f.glyphs.length ≤ 10000000000 := by have := flat_ge (glyphB f.glyphs) (glyphB_pos f.glyphs) f.glyphs; omega
  have n2 : f.chars.length ≤ 10000000000 := by have := flat_ge (charB f.glyphs) (fun _ => line_pos _ _) f.chars; omega
  have n3 : f.lookups.length ≤ 10000000000 := by have := flat_ge (lookupB f.glyphs) (lookupB_pos f.glyphs) f.lookups; omega
  have n4 : f.features.length ≤ 10000000000 := by have := flat_ge featureB (fun _ => line_pos _ _) f.features; omega
  have n5 : f.axes.length ≤ 10000000000 := by have := flat_ge axisB (fun _ => line_pos _ _) f.axes; omega
  have n6 : f.regions.length ≤ 10000000000 := by have := flat_ge regionB (fun _ => line_pos _ _) f.regions; omega
  have n7 : f.funcs.length ≤ 10000000000 := by have := flat_ge funcB (fun _ => line_pos _ _) f.funcs; omega
  have hgl : f.glyphs.length ≤ 1000000000000 := by omega
  have hH : ∀ y ∈ f.glyphs, y.hint.length ≤ 1000000000 := fun y hy => by have h1 := hint_le f.glyphs y; have h2 := flat_mem (glyphB f.glyphs) f.glyphs y hy; omega
  have hS := Lib.hid hS
  have hH := Lib.hid hH
  go_enter Tryd.func8, Tryd.ntmps8
  go_upto_region 2 with fail
  obtain ⟨W0, hW0⟩ : ∃ W0, (w.alloc (.cells #[.int .i64 f.unit, .slice A1 f.glyphs.length c1, .slice A2 f.chars.length c2, .slice A3 f.lookups.length c3, .slice A4 f.features.length c4, .slice A5 f.axes.length c5, .slice A6 f.regions.length c6, .slice A7 f.funcs.length c7, .slice A8 f.cvt.length c8] 32)).alloc (.cells #[.int .i64 f.unit, .slice A1 f.glyphs.length c1, .slice A2 f.chars.length c2, .slice A3 f.lookups.length c3, .slice A4 f.features.length c4, .slice A5 f.axes.length c5, .slice A6 f.regions.length c6, .slice A7 f.funcs.length c7, .slice A8 f.cvt.length c8, .pointer none, .slice none 0 0] 96) = W0 := ⟨_, rfl⟩
  rw [hW0]
  have hbW : Below w.heap.size w W0 := by rw [← hW0]; exact ((Below.refl _ _).alloc (Nat.le_refl _) _).alloc (by simp) _
  have B0 : Bk W0 w.heap.size 32 #[.int .i64 f.unit, .slice A1 f.glyphs.length c1, .slice A2 f.chars.length c2, .slice A3 f.lookups.length c3, .slice A4 f.features.length c4, .slice A5 f.axes.length c5, .slice A6 f.regions.length c6, .slice A7 f.funcs.length c7, .slice A8 f.cvt.length c8] := by rw [← hW0]; exact (Bk.new _ _ _).alloc _
  have B1 : Bk W0 (w.heap.size + 1) 96 #[.int .i64 f.unit, .slice A1 f.glyphs.length c1, .slice A2 f.chars.length c2, .slice A3 f.lookups.length c3, .slice A4 f.features.length c4, .slice A5 f.axes.length c5, .slice A6 f.regions.length c6, .slice A7 f.funcs.length c7, .slice A8 f.cvt.length c8, .pointer none, .slice none 0 0] := by
    rw [← hW0]
    have := Bk.new (w.alloc (.cells #[.int .i64 f.unit, .slice A1 f.glyphs.length c1, .slice A2 f.chars.length c2, .slice A3 f.lookups.length c3, .slice A4 f.features.length c4, .slice A5 f.axes.length c5, .slice A6 f.regions.length c6, .slice A7 f.funcs.length c7, .slice A8 f.cvt.length c8] 32)) 96 #[.int .i64 f.unit, .slice A1 f.glyphs.length c1, .slice A2 f.chars.length c2, .slice A3 f.lookups.length c3, .slice A4 f.features.length c4, .slice A5 f.axes.length c5, .slice A6 f.regions.length c6, .slice A7 f.funcs.length c7, .slice A8 f.cvt.length c8, .pointer none, .slice none 0 0]
    rwa [World.size_alloc] at this
  obtain ⟨fc, hfc⟩ : ∃ fc : Nat → Value, PrC W0 (w.heap.size + 1) fc (.pointer none) (.slice none 0 0) := ⟨fcOf [.int .i64 f.unit, .slice A1 f.glyphs.length c1, .slice A2 f.chars.length c2, .slice A3 f.lookups.length c3, .slice A4 f.features.length c4, .slice A5 f.axes.length c5, .slice A6 f.regions.length c6, .slice A7 f.funcs.length c7, .slice A8 f.cvt.length c8], B1⟩
  have z0 := hbW.size
  have hwW : w.heap.size ≤ W0.heap.size := z0
  have hp0 : Pr W0 w.heap.size (w.heap.size + 1) fc [] := ⟨_, _, by omega, hfc, .inl rfl, ⟨rfl, .inl ⟨rfl, rfl⟩⟩⟩
  have hP0 : PN W0 (w.heap.size + 1) f.glyphs := ⟨A1, c1, B1.cell 1, (KP.below hbW).sl GlyphR.ok s1⟩
  have hkW := KP.below hbW
  replace s1 := hkW.sl GlyphR.ok s1
  replace s2 := hkW.sl ChrR.ok s2
  replace s3 := hkW.sl LookupR.ok s3
  replace s4 := hkW.sl FeatureR.ok s4
  replace s5 := hkW.sl AxisR.ok s5
  replace s6 := hkW.sl RegionR.ok s6
  replace s7 := hkW.sl CodeR.ok s7
  replace s8 := hkW.sl IntR.ok s8
  have q0 : W0.cell? ⟨w.heap.size, 0, none⟩ = some (.int .i64 f.unit) := B0.cell 0
  have hnu := Lib.hid (number_ok W0 f.unit (hT.all hbW) r0)
  have hlu : ([] : B).length + (lineB sUnit [itB f.unit]).length ≤ 10000000000 := by rw [HT0.out]; simp only [List.length_nil]; omega
  clear hW0 hfc hkW
  go_wp2_with (first
    | (go_at_call 21; refine hnu.out.mono ?_; rintro e w1 ⟨rfl, hb1⟩)
    | (go_at_call 20; refine (line_lit w1 w1.heap.size 1 rfl w.heap.size (w.heap.size + 1) fc [] sUnit [itB f.unit] rfl (hp0.below hb1) hlu).mono ?_; rintro e W1 ⟨rfl, hp1, hk1, hbb1⟩; have l5 : W1.cell? ⟨w.heap.size, 5, none⟩ = some (.slice A5 f.axes.length c5) := (hk1.bk (B0.below hb1) (by decide) (by decide)).cell 5))
  have Hgy : Hid (GyI w W0 w.heap.size (w.heap.size + 1) fc T0 W1) := by
    rw [HT0.out] at hp1
    exact ⟨hp1, (KP.below hb1).trans hk1, hbW.trans ((hb1.mono (by omega)).trans hbb1)⟩
  clear q0 hnu hp1 hk1 hbb1
  have l30 : W1.cell? ⟨w.heap.size, 5, none⟩ = some (.slice A5 f.axes.length c5) := (Hgy.out.2.1.bk B0 (by decide) (by decide)).cell 5
  go_wp2_with fail
  go_loopw [30] (fun i wr => ∃ k : Nat, k ≤ f.axes.length ∧ i = .int .i64 k ∧ GyI w W0 w.heap.size (w.heap.size + 1) fc (T0 ++ (f.axes.take k).flatMap axisB) wr) (fun i _ => f.axes.length - (intOf i).toNat)
  case atStart => exact ⟨0, Nat.zero_le _, rfl, by simpa using Hgy.out⟩
  case round =>
    obtain ⟨k, hk, rfl, hgy⟩ := hrel
    clear l30 Hgy
    have hkr : KP W0 wr := hgy.2.1
    have hzr := hkr.size
    have Hgy := Lib.hid hgy
    by_cases hlt : k < f.axes.length
    · have hkb : k ≤ 10000000000 := Nat.le_trans (Nat.le_of_lt hlt) n5
      have hTr : Tabs wr := hT.below hgy.2.2 hG
      have hPr : PN wr (w.heap.size + 1) f.glyphs := hP0.kp hp0 hgy.1 hkr
      have hpr := hgy.1
      have hsl := hkr.sl AxisR.ok s5
      clear hgy
      obtain ⟨b, o, y, rfl, -, hy, q0, q1, q2, q3, r1, r2, r3⟩ := hsl.axis hlt
      have hsn := Lib.hid (flat_take_snoc axisB f.axes k y hy.out)
      have hle := flatB_take_succ_le axisB f.axes k y hy.out
      have hll : (T0 ++ (f.axes.take k).flatMap axisB).length + (axisB y).length ≤ 10000000000 := by simp only [List.length_append]; omega
      obtain ⟨y0, y1, y2, y3⟩ := y
      dsimp only at q0 q1 q2 q3 r1 r2 r3
      have hll2 : (T0 ++ (f.axes.take k).flatMap axisB).length + (lineB sAxis [y0, itB y1, itB y2, itB y3]).length ≤ 10000000000 := hll
      clear hy hle hll hsl
      go_wp2_with fail
      obtain ⟨W2, hW2⟩ : ∃ W2, wr.alloc (.cells #[.string ⟨y0.toArray⟩, .int .i64 y1, .int .i64 y2, .int .i64 y3] 84) = W2 := ⟨_, rfl⟩
      rw [hW2]
      have hb0 : Below wr.heap.size wr W2 := by rw [← hW2]; exact (Below.refl _ _).alloc (Nat.le_refl _) _
      have BV : Bk W2 wr.heap.size 84 #[.string ⟨y0.toArray⟩, .int .i64 y1, .int .i64 y2, .int .i64 y3] := by rw [← hW2]; exact Bk.new _ _ _
      have zz0 := hb0.size
      clear hW2 q0 q1 q2 q3
      have hT2 := hTr.all hb0
      have hP2 := hPr.below hb0
      have hpr2 := hpr.below hb0
      have v0 : W2.cell? ⟨wr.heap.size, 0, none⟩ = some (.string ⟨y0.toArray⟩) := BV.cell 0
      have v1 : W2.cell? ⟨wr.heap.size, 1, none⟩ = some (.int .i64 y1) := BV.cell 1
      have v2 : W2.cell? ⟨wr.heap.size, 2, none⟩ = some (.int .i64 y2) := BV.cell 2
      have v3 : W2.cell? ⟨wr.heap.size, 3, none⟩ = some (.int .i64 y3) := BV.cell 3
      go_region_held3 (fun w' => w'.cell? ⟨wr.heap.size, 0, none⟩ = some (.string ⟨y0.toArray⟩) ∧ w'.cell? ⟨wr.heap.size, 1, none⟩ = some (.int .i64 y1) ∧ w'.cell? ⟨wr.heap.size, 2, none⟩ = some (.int .i64 y2) ∧ w'.cell? ⟨wr.heap.size, 3, none⟩ = some (.int .i64 y3))
        (first
          | exact ⟨(hkz.bk (BV.below hc3) (by decide) (by decide)).cell 0, (hkz.bk (BV.below hc3) (by decide) (by decide)).cell 1, (hkz.bk (BV.below hc3) (by decide) (by decide)).cell 2, (hkz.bk (BV.below hc3) (by decide) (by decide)).cell 3⟩
          | exact ⟨cellA _ (cellB hc3 v0), cellA _ (cellB hc3 v1), cellA _ (cellB hc3 v2), cellA _ (cellB hc3 v3)⟩
          | exact ⟨cellB hc3 v0, cellB hc3 v1, cellB hc3 v2, cellB hc3 v3⟩
          | exact ⟨cellB hc2 v0, cellB hc2 v1, cellB hc2 v2, cellB hc2 v3⟩
          | exact ⟨cellB hc1 v0, cellB hc1 v1, cellB hc1 v2, cellB hc1 v3⟩
          | go_keep)
        (first
          | (go_at_call 21; refine (number_ok _ y1 hT2.drew r1).mono ?_; rintro e w1 ⟨rfl, hb1⟩; have hc1 := unDrew hb1; have z1 := hc1.size)
          | (go_at_call 21; refine (number_ok _ y2 (hT2.all hc1) r2).mono ?_; rintro e w2 ⟨rfl, hb2⟩; have hc2 := bt hc1 hb2; have z2 := hc2.size)
          | (go_at_call 21; refine (number_ok _ y3 (hT2.all hc2) r3).mono ?_; rintro e w3 ⟨rfl, hb3⟩; have hc3 := bt hc2 hb3; have z3 := hc3.size)
          | (go_at_call 20; refine (line_lit w3 w3.heap.size 4 rfl w.heap.size (w.heap.size + 1) fc _ sAxis [y0, itB y1, itB y2, itB y3] rfl (hpr2.below hc3) hll2).mono ?_; rintro e wz ⟨rfl, hpz, hkz, hbz⟩))
      go_wp2
      go_roundw
      case rel => exact ⟨k + 1, by omega, by simp, by rw [hsn.out, ← List.append_assoc]; exact hpz, Hgy.out.2.1.trans ((KP.below (bt hb0 hc3)).trans hkz), Hgy.out.2.2.trans (((bt hb0 hc3).mono (by omega)).trans hbz)⟩
      case measure => simp [intOf]; omega
    · obtain rfl : k = f.axes.length := by omega
      rw [List.take_length] at Hgy
      clear hkr hzr
      have l52 : wr.cell? ⟨w.heap.size, 6, none⟩ = some (.slice A6 f.regions.length c6) := (Hgy.out.2.1.bk B0 (by decide) (by decide)).cell 6
      go_wp2_with fail
      go_loopw [52] (fun i wr => ∃ k : Nat, k ≤ f.regions.length ∧ i = .int .i64 k ∧ GyI w W0 w.heap.size (w.heap.size + 1) fc (T0 ++ f.axes.flatMap axisB ++ (f.regions.take k).flatMap regionB) wr) (fun i _ => f.regions.length - (intOf i).toNat)
      case atStart => exact ⟨0, Nat.zero_le _, rfl, by simpa using Hgy.out⟩
      case round =>
        obtain ⟨k, hk, rfl, hgy⟩ := hrel
        clear l52 Hgy
        have hkr : KP W0 wr := hgy.2.1
        have hzr := hkr.size
        have Hgy := Lib.hid hgy
        by_cases hlt : k < f.regions.length
        · have hkb : k ≤ 10000000000 := Nat.le_trans (Nat.le_of_lt hlt) n6
          have hTr : Tabs wr := hT.below hgy.2.2 hG
          have hPr : PN wr (w.heap.size + 1) f.glyphs := hP0.kp hp0 hgy.1 hkr
          have hpr := hgy.1
          have hsl := hkr.sl RegionR.ok s6
          clear hgy
          obtain ⟨b, o, y, E0, e0, rfl, -, hy, q0, j0⟩ := hsl.region hlt
          have hsn := Lib.hid (flat_take_snoc regionB f.regions k y hy.out)
          have hle := flatB_take_succ_le regionB f.regions k y hy.out
          have hll : (T0 ++ f.axes.flatMap axisB ++ (f.regions.take k).flatMap regionB).length + (regionB y).length ≤ 10000000000 := by simp only [List.length_append]; omega
          obtain ⟨y⟩ := y
          dsimp only at q0 j0
          have hyl : y.length ≤ 10000000000 := by
            have h1 := tentW_le y
            have h2 := line_words sRegion (y.flatMap tentW)
            have h3 : regionB ⟨y⟩ = lineB sRegion (y.flatMap tentW) := rfl
            rw [h3] at hle
            omega
          have hba : Below wr.heap.size wr (wr.alloc (.cells #[.slice E0 y.length e0] 89)) := (Below.refl _ _).alloc (Nat.le_refl _) _
          have hka := KP.below hba
          have hR := Lib.hid (region_ok _ w.heap.size (w.heap.size + 1) fc _ E0 e0 y (hTr.all hba) (hpr.below hba) (Nat.le_trans hwW (Nat.le_trans hzr hba.size)) (hka.sl TentR.ok j0) hyl (Nat.le_trans hll (by decide)))
          have Hka := Lib.hid hka
          have Hba := Lib.hid hba
          clear hy hle hll hsl hka hba hTr hPr hpr
          go_wp2_with (go_at_call 22; refine hR.out.mono ?_; rintro e wz ⟨rfl, hpz, hkz, hbz⟩)
          go_roundw
          case rel => exact ⟨k + 1, by omega, by simp, by rw [hsn.out, ← List.append_assoc]; exact hpz, Hgy.out.2.1.trans (Hka.out.trans hkz), Hgy.out.2.2.trans ((Hba.out.mono (by omega)).trans hbz)⟩
          case measure => simp [intOf]; omega
        · obtain rfl : k = f.regions.length := by omega
          rw [List.take_length] at Hgy
          clear hkr hzr
          have l8 : wr.cell? ⟨w.heap.size, 8, none⟩ = some (.slice A8 f.cvt.length c8) := (Hgy.out.2.1.bk B0 (by decide) (by decide)).cell 8
          go_upto_if 63 with fail
          go_cut [3, 63] from 64 to 68 (fun s3 _ wx => s3 = .pointer (some ⟨w.heap.size + 1, 0, none⟩) ∧ GyI w W0 w.heap.size (w.heap.size + 1) fc (T0 ++ f.axes.flatMap axisB ++ f.regions.flatMap regionB ++ cvtB f.cvt) wx)
          case first =>
            have hgy := Hgy.out
            have hkr : KP W0 wr := hgy.2.1
            have hzr := hkr.size
            have hTr : Tabs wr := hT.below hgy.2.2 hG
            have hpr := hgy.1
            have hsl := hkr.sl IntR.ok s8
            clear hgy
            by_cases h0 : f.cvt = []
            · have hz : cvtB f.cvt = [] := by rw [h0]; rfl
              have hz0 : ¬ (0 < f.cvt.length) := by rw [h0]; simp
              have Hz := Lib.hid hz
              clear hz h0
              go_wp2_with fail
              go_meet
              rw [Hz.out, List.append_nil]
              exact ⟨rfl, Hgy.out⟩
            · have hz : cvtB f.cvt = lineB sCvt (f.cvt.map itB) := by unfold cvtB; rw [if_neg (by simpa using h0)]
              have hz0 : 0 < f.cvt.length := List.length_pos_iff.2 h0
              have hw1 := line_words sCvt (f.cvt.map itB)
              have hll2 : (T0 ++ f.axes.flatMap axisB ++ f.regions.flatMap regionB).length + (lineB sCvt (f.cvt.map itB)).length ≤ 10000000000 := by rw [← hz]; simp only [List.length_append]; omega
              have hyl : f.cvt.length ≤ 10000000000 := by rw [List.length_map] at hw1; omega
              have hnl : Hid (f.cvt.length = (f.cvt.map itB).length) := Lib.hid (List.length_map itB).symm
              have Hll3 : Hid ((T0 ++ f.axes.flatMap axisB ++ f.regions.flatMap regionB).length + (lineB sCvt (f.cvt.map itB)).length ≤ 1000000000000 ∧ (f.cvt.map itB).length ≤ 1000000000000) := Lib.hid ⟨by omega, by omega⟩
              have hI := Lib.hid (numbers_ok wr A8 c8 f.cvt hTr hsl (by omega))
              have Hz := Lib.hid hz
              clear hz h0 hll2 hw1
              go_wp2_with (first
                | (go_at_call 23; refine hI.out.mono ?_; rintro e w1 ⟨Aw, cw, rfl, how, hb1⟩; have z1 := hb1.size)
                | (go_at_call 20; refine (line_n w1 w.heap.size (w.heap.size + 1) fc _ sCvt Aw cw f.cvt.length (f.cvt.map itB) hnl.out (hpr.below hb1) (own_sl how) Hll3.out).mono ?_; rintro e wz ⟨rfl, hpz, hkz, hbz⟩))
              go_meet
              rw [Hz.out]
              exact ⟨rfl, hpz, Hgy.out.2.1.trans ((KP.below hb1).trans hkz), Hgy.out.2.2.trans ((hb1.mono (by omega)).trans hbz)⟩
          case rest =>
            obtain ⟨rfl, hgy⟩ := hcut
            clear Hgy l8
            have Hgy := Lib.hid hgy
            clear hgy
            have l72 : wc.cell? ⟨w.heap.size, 7, none⟩ = some (.slice A7 f.funcs.length c7) := (Hgy.out.2.1.bk B0 (by decide) (by decide)).cell 7
            go_wp2_with fail
            go_loopw [72] (fun i wr => ∃ k : Nat, k ≤ f.funcs.length ∧ i = .int .i64 k ∧ GyI w W0 w.heap.size (w.heap.size + 1) fc (T0 ++ f.axes.flatMap axisB ++ f.regions.flatMap regionB ++ cvtB f.cvt ++ (f.funcs.take k).flatMap funcB) wr) (fun i _ => f.funcs.length - (intOf i).toNat)
            case atStart => exact ⟨0, Nat.zero_le _, rfl, by simpa using Hgy.out⟩
            case round =>
              obtain ⟨k, hk, rfl, hgy⟩ := hrel
              clear l72 Hgy
              have hkr : KP W0 wr := hgy.2.1
              have hzr := hkr.size
              have Hgy := Lib.hid hgy
              by_cases hlt : k < f.funcs.length
              · have hkb : k ≤ 10000000000 := Nat.le_trans (Nat.le_of_lt hlt) n7
                have hTr : Tabs wr := hT.below hgy.2.2 hG
                have hPr : PN wr (w.heap.size + 1) f.glyphs := hP0.kp hp0 hgy.1 hkr
                have hpr := hgy.1
                have hsl := hkr.sl CodeR.ok s7
                clear hgy
                obtain ⟨b, o, y, E0, e0, rfl, -, hy, q0, j0⟩ := hsl.code hlt
                have hsn := Lib.hid (flat_take_snoc funcB f.funcs k y hy.out)
                have hle := flatB_take_succ_le funcB f.funcs k y hy.out
                have hll : (T0 ++ f.axes.flatMap axisB ++ f.regions.flatMap regionB ++ cvtB f.cvt ++ (f.funcs.take k).flatMap funcB).length + (funcB y).length ≤ 10000000000 := by simp only [List.length_append]; omega
                have hw1 := line_words sFunc (y.map insB)
                have hll2 : (T0 ++ f.axes.flatMap axisB ++ f.regions.flatMap regionB ++ cvtB f.cvt ++ (f.funcs.take k).flatMap funcB).length + (lineB sFunc (y.map insB)).length ≤ 10000000000 := hll
                have hyl : y.length ≤ 10000000000 := by rw [List.length_map] at hw1; omega
                have hnl : Hid (y.length = (y.map insB).length) := Lib.hid (List.length_map insB).symm
                have hll3 : (T0 ++ f.axes.flatMap axisB ++ f.regions.flatMap regionB ++ cvtB f.cvt ++ (f.funcs.take k).flatMap funcB).length + (lineB sFunc (y.map insB)).length ≤ 1000000000000 ∧ (y.map insB).length ≤ 1000000000000 := ⟨by omega, by omega⟩
                have Hll3 := Lib.hid hll3
                have hI := Lib.hid (instructions_ok wr E0 e0 y hTr j0 (by omega))
                clear hy hle hll hsl hll2 hw1 hll3
                go_wp2_with (first
                  | (go_at_call 24; refine hI.out.mono ?_; rintro e w1 ⟨Aw, cw, rfl, how, hb1⟩; have z1 := hb1.size)
                  | (go_at_call 20; refine (line_n w1 w.heap.size (w.heap.size + 1) fc _ sFunc Aw cw y.length (y.map insB) hnl.out (hpr.below hb1) (own_sl how) Hll3.out).mono ?_; rintro e wz ⟨rfl, hpz, hkz, hbz⟩))
                go_roundw
                case rel => exact ⟨k + 1, by omega, by simp, by rw [hsn.out, ← List.append_assoc]; exact hpz, Hgy.out.2.1.trans ((KP.below hb1).trans hkz), Hgy.out.2.2.trans ((hb1.mono (by omega)).trans hbz)⟩
                case measure => simp [intOf]; omega
              · obtain rfl : k = f.funcs.length := by omega
                rw [List.take_length] at Hgy
                clear hkr hzr
                have l84 : wr.cell? ⟨w.heap.size, 1, none⟩ = some (.slice A1 f.glyphs.length c1) := (Hgy.out.2.1.bk B0 (by decide) (by decide)).cell 1
                go_wp2_with fail
                go_loopw [84] (fun i wr => ∃ k : Nat, k ≤ f.glyphs.length ∧ i = .int .i64 k ∧ GyI w W0 w.heap.size (w.heap.size + 1) fc (T0 ++ f.axes.flatMap axisB ++ f.regions.flatMap regionB ++ cvtB f.cvt ++ f.funcs.flatMap funcB ++ (f.glyphs.take k).flatMap (glyphB f.glyphs)) wr) (fun i _ => f.glyphs.length - (intOf i).toNat)
                case atStart => exact ⟨0, Nat.zero_le _, rfl, by simpa using Hgy.out⟩
                case round =>
                  obtain ⟨k, hk, rfl, hgy⟩ := hrel
                  clear l84 Hgy
                  have hkr : KP W0 wr := hgy.2.1
                  have hzr := hkr.size
                  have Hgy := Lib.hid hgy
                  by_cases hlt : k < f.glyphs.length
                  · have hkb : k ≤ 10000000000 := Nat.le_trans (Nat.le_of_lt hlt) n1
                    have hTr : Tabs wr := hT.below hgy.2.2 hG
                    have hPr : PN wr (w.heap.size + 1) f.glyphs := hP0.kp hp0 hgy.1 hkr
                    have hpr := hgy.1
                    have hsl := hkr.sl GlyphR.ok s1
                    clear hgy
                    obtain ⟨b, o, y, E3, e3, E4, e4, E5, e5, E6, e6, E7, e7, E8, e8, rfl, -, hy, q0, q1, q2, q3, q4, q5, q6, q7, q8, r1, j3, j4, j5, j6, j7, j8⟩ := hsl.glyph hlt
                    have hsn := Lib.hid (flat_take_snoc (glyphB f.glyphs) f.glyphs k y hy.out)
                    have hle := flatB_take_succ_le (glyphB f.glyphs) f.glyphs k y hy.out
                    have hll : (T0 ++ f.axes.flatMap axisB ++ f.regions.flatMap regionB ++ cvtB f.cvt ++ f.funcs.flatMap funcB ++ (f.glyphs.take k).flatMap (glyphB f.glyphs)).length + ((glyphB f.glyphs) y).length ≤ 10000000000 := by simp only [List.length_append]; omega
                    obtain ⟨hpn, hen⟩ := hS y (List.mem_of_getElem? hy.out)
                    have hhn : y.hint.length ≤ 1000000000 := hH y (List.mem_of_getElem? hy.out)
                    have hba : Below wr.heap.size wr (wr.alloc (.cells #[.string ⟨y.name.toArray⟩, .int .i64 y.advance, .bool y.mark, .slice E3 y.points.length e3, .slice E4 y.ends.length e4, .slice E5 y.parts.length e5, .slice E6 y.anchors.length e6, .slice E7 y.deltas.length e7, .slice E8 y.hint.length e8] 57)) := (Below.refl _ _).alloc (Nat.le_refl _) _
                    have hka := KP.below hba
                    have hR := Lib.hid (glyph_ok _ w.heap.size (w.heap.size + 1) fc _ f.glyphs E3 E4 E5 E6 E7 E8 e3 e4 e5 e6 e7 e8 y (hTr.all hba) hG (hPr.below hba) hgl (hpr.below hba) (Nat.le_trans hwW (Nat.le_trans hzr hba.size)) r1 (hka.sl PtR.ok j3) (hka.sl IntR.ok j4) (hka.sl PartR.ok j5) (hka.sl AnchorR.ok j6) (hka.sl DeltaR.ok j7) (hka.sl InsR.ok j8) hpn hen hhn hll)
                    have Hka := Lib.hid hka
                    have Hba := Lib.hid hba
                    clear hy hle hll hsl hka hba hTr hPr hpr
                    go_wp2_with (go_at_call 25; refine hR.out.mono ?_; rintro e wz ⟨rfl, hpz, hkz, hbz⟩)
                    go_roundw
                    case rel => exact ⟨k + 1, by omega, by simp, by rw [hsn.out, ← List.append_assoc]; exact hpz, Hgy.out.2.1.trans (Hka.out.trans hkz), Hgy.out.2.2.trans ((Hba.out.mono (by omega)).trans hbz)⟩
                    case measure => simp [intOf]; omega
                  · obtain rfl : k = f.glyphs.length := by omega
                    rw [List.take_length] at Hgy
                    clear hkr hzr
                    have l95 : wr.cell? ⟨w.heap.size, 2, none⟩ = some (.slice A2 f.chars.length c2) := (Hgy.out.2.1.bk B0 (by decide) (by decide)).cell 2
                    go_wp2_with fail
                    go_loopw [95] (fun i wr => ∃ k : Nat, k ≤ f.chars.length ∧ i = .int .i64 k ∧ GyI w W0 w.heap.size (w.heap.size + 1) fc (T0 ++ f.axes.flatMap axisB ++ f.regions.flatMap regionB ++ cvtB f.cvt ++ f.funcs.flatMap funcB ++ f.glyphs.flatMap (glyphB f.glyphs) ++ (f.chars.take k).flatMap (charB f.glyphs)) wr) (fun i _ => f.chars.length - (intOf i).toNat)
                    case atStart => exact ⟨0, Nat.zero_le _, rfl, by simpa using Hgy.out⟩
                    case round =>
                      obtain ⟨k, hk, rfl, hgy⟩ := hrel
                      clear l95 Hgy
                      have hkr : KP W0 wr := hgy.2.1
                      have hzr := hkr.size
                      have Hgy := Lib.hid hgy
                      by_cases hlt : k < f.chars.length
                      · have hkb : k ≤ 10000000000 := Nat.le_trans (Nat.le_of_lt hlt) n2
                        have hTr : Tabs wr := hT.below hgy.2.2 hG
                        have hPr : PN wr (w.heap.size + 1) f.glyphs := hP0.kp hp0 hgy.1 hkr
                        have hpr := hgy.1
                        have hsl := hkr.sl ChrR.ok s2
                        clear hgy
                        obtain ⟨b, o, y, rfl, -, hy, q0, q1, r0, r1⟩ := hsl.chr hlt
                        have hsn := Lib.hid (flat_take_snoc (charB f.glyphs) f.chars k y hy.out)
                        have hle := flatB_take_succ_le (charB f.glyphs) f.chars k y hy.out
                        have hll : (T0 ++ f.axes.flatMap axisB ++ f.regions.flatMap regionB ++ cvtB f.cvt ++ f.funcs.flatMap funcB ++ f.glyphs.flatMap (glyphB f.glyphs) ++ (f.chars.take k).flatMap (charB f.glyphs)).length + ((charB f.glyphs) y).length ≤ 10000000000 := by simp only [List.length_append]; omega
                        obtain ⟨y0, y1⟩ := y
                        dsimp only at q0 q1 r0 r1
                        have hll2 : (T0 ++ f.axes.flatMap axisB ++ f.regions.flatMap regionB ++ cvtB f.cvt ++ f.funcs.flatMap funcB ++ f.glyphs.flatMap (glyphB f.glyphs) ++ (f.chars.take k).flatMap (charB f.glyphs)).length + (lineB sChar [itB y0, gnB f.glyphs y1]).length ≤ 10000000000 := hll
                        clear hy hle hll hsl
                        go_wp2_with fail
                        obtain ⟨W2, hW2⟩ : ∃ W2, wr.alloc (.cells #[.int .i64 y0, .int .i64 y1] 74) = W2 := ⟨_, rfl⟩
                        rw [hW2]
                        have hb0 : Below wr.heap.size wr W2 := by rw [← hW2]; exact (Below.refl _ _).alloc (Nat.le_refl _) _
                        have BV : Bk W2 wr.heap.size 74 #[.int .i64 y0, .int .i64 y1] := by rw [← hW2]; exact Bk.new _ _ _
                        have zz0 := hb0.size
                        clear hW2 q0 q1
                        have hT2 := hTr.all hb0
                        have hP2 := hPr.below hb0
                        have hpr2 := hpr.below hb0
                        have v0 : W2.cell? ⟨wr.heap.size, 0, none⟩ = some (.int .i64 y0) := BV.cell 0
                        have v1 : W2.cell? ⟨wr.heap.size, 1, none⟩ = some (.int .i64 y1) := BV.cell 1
                        go_region_held3 (fun w' => w'.cell? ⟨wr.heap.size, 0, none⟩ = some (.int .i64 y0) ∧ w'.cell? ⟨wr.heap.size, 1, none⟩ = some (.int .i64 y1))
                          (first
                            | exact ⟨(hkz.bk (BV.below hc2) (by decide) (by decide)).cell 0, (hkz.bk (BV.below hc2) (by decide) (by decide)).cell 1⟩
                            | exact ⟨cellA _ (cellB hc2 v0), cellA _ (cellB hc2 v1)⟩
                            | exact ⟨cellB hc2 v0, cellB hc2 v1⟩
                            | exact ⟨cellB hc1 v0, cellB hc1 v1⟩
                            | go_keep)
                          (first
                            | (go_at_call 21; refine (number_ok _ y0 hT2.drew r0).mono ?_; rintro e w1 ⟨rfl, hb1⟩; have hc1 := unDrew hb1; have z1 := hc1.size)
                            | (go_at_call 26; refine (name_ok' _ (w.heap.size + 1) f.glyphs y1 (hT2.all hc1) r1 (hP2.below hc1) hgl).mono ?_; rintro e w2 ⟨rfl, hb2⟩; have hc2 := bt hc1 hb2; have z2 := hc2.size)
                            | (go_at_call 20; refine (line_lit w2 w2.heap.size 2 rfl w.heap.size (w.heap.size + 1) fc _ sChar [itB y0, gnB f.glyphs y1] rfl (hpr2.below hc2) hll2).mono ?_; rintro e wz ⟨rfl, hpz, hkz, hbz⟩))
                        go_wp2
                        go_roundw
                        case rel => exact ⟨k + 1, by omega, by simp, by rw [hsn.out, ← List.append_assoc]; exact hpz, Hgy.out.2.1.trans ((KP.below (bt hb0 hc2)).trans hkz), Hgy.out.2.2.trans (((bt hb0 hc2).mono (by omega)).trans hbz)⟩
                        case measure => simp [intOf]; omega
                      · obtain rfl : k = f.chars.length := by omega
                        rw [List.take_length] at Hgy
                        clear hkr hzr
                        have l113 : wr.cell? ⟨w.heap.size, 3, none⟩ = some (.slice A3 f.lookups.length c3) := (Hgy.out.2.1.bk B0 (by decide) (by decide)).cell 3
                        go_wp2_with fail
                        go_loopw [113] (fun i wr => ∃ k : Nat, k ≤ f.lookups.length ∧ i = .int .i64 k ∧ GyI w W0 w.heap.size (w.heap.size + 1) fc (T0 ++ f.axes.flatMap axisB ++ f.regions.flatMap regionB ++ cvtB f.cvt ++ f.funcs.flatMap funcB ++ f.glyphs.flatMap (glyphB f.glyphs) ++ f.chars.flatMap (charB f.glyphs) ++ (f.lookups.take k).flatMap (lookupB f.glyphs)) wr) (fun i _ => f.lookups.length - (intOf i).toNat)
                        case atStart => exact ⟨0, Nat.zero_le _, rfl, by simpa using Hgy.out⟩
                        case round =>
                          obtain ⟨k, hk, rfl, hgy⟩ := hrel
                          clear l113 Hgy
                          have hkr : KP W0 wr := hgy.2.1
                          have hzr := hkr.size
                          have Hgy := Lib.hid hgy
                          by_cases hlt : k < f.lookups.length
                          · have hkb : k ≤ 10000000000 := Nat.le_trans (Nat.le_of_lt hlt) n3
                            have hTr : Tabs wr := hT.below hgy.2.2 hG
                            have hPr : PN wr (w.heap.size + 1) f.glyphs := hP0.kp hp0 hgy.1 hkr
                            have hpr := hgy.1
                            have hsl := hkr.sl LookupR.ok s3
                            clear hgy
                            obtain ⟨b, o, y, E2, e2, rfl, -, hy, q0, q1, q2, r0, j2⟩ := hsl.lookup hlt
                            have hsn := Lib.hid (flat_take_snoc (lookupB f.glyphs) f.lookups k y hy.out)
                            have hle := flatB_take_succ_le (lookupB f.glyphs) f.lookups k y hy.out
                            have hll : (T0 ++ f.axes.flatMap axisB ++ f.regions.flatMap regionB ++ cvtB f.cvt ++ f.funcs.flatMap funcB ++ f.glyphs.flatMap (glyphB f.glyphs) ++ f.chars.flatMap (charB f.glyphs) ++ (f.lookups.take k).flatMap (lookupB f.glyphs)).length + ((lookupB f.glyphs) y).length ≤ 10000000000 := by simp only [List.length_append]; omega
                            have hrl : y.rules.length ≤ 10000000000 := by
                              have h1 := flat_ge (ruleB f.glyphs y.kind) (fun _ => line_pos _ _) y.rules
                              have h2 : lookupB f.glyphs y = lineB sLookup (pick kindNames y.kind :: if y.ignore then [sIgnore] else []) ++ y.rules.flatMap (ruleB f.glyphs y.kind) := rfl
                              rw [h2, List.length_append] at hle
                              omega
                            have hba : Below wr.heap.size wr (wr.alloc (.cells #[.int .i64 y.kind, .bool y.ignore, .slice E2 y.rules.length e2] 60)) := (Below.refl _ _).alloc (Nat.le_refl _) _
                            have hka := KP.below hba
                            have hR := Lib.hid (lookup_ok _ w.heap.size (w.heap.size + 1) fc _ f.glyphs E2 e2 y (hTr.all hba) hG (hPr.below hba) hgl (hpr.below hba) (Nat.le_trans hwW (Nat.le_trans hzr hba.size)) (hka.sl RuleR.ok j2) hrl hll)
                            have Hka := Lib.hid hka
                            have Hba := Lib.hid hba
                            clear hy hle hll hsl hka hba hTr hPr hpr
                            go_wp2_with (go_at_call 27; refine hR.out.mono ?_; rintro e wz ⟨rfl, hpz, hkz, hbz⟩)
                            go_roundw
                            case rel => exact ⟨k + 1, by omega, by simp, by rw [hsn.out, ← List.append_assoc]; exact hpz, Hgy.out.2.1.trans (Hka.out.trans hkz), Hgy.out.2.2.trans ((Hba.out.mono (by omega)).trans hbz)⟩
                            case measure => simp [intOf]; omega
                          · obtain rfl : k = f.lookups.length := by omega
                            rw [List.take_length] at Hgy
                            clear hkr hzr
                            have l124 : wr.cell? ⟨w.heap.size, 4, none⟩ = some (.slice A4 f.features.length c4) := (Hgy.out.2.1.bk B0 (by decide) (by decide)).cell 4
                            go_wp2_with fail
                            go_loopw [124] (fun i wr => ∃ k : Nat, k ≤ f.features.length ∧ i = .int .i64 k ∧ GyI w W0 w.heap.size (w.heap.size + 1) fc (T0 ++ f.axes.flatMap axisB ++ f.regions.flatMap regionB ++ cvtB f.cvt ++ f.funcs.flatMap funcB ++ f.glyphs.flatMap (glyphB f.glyphs) ++ f.chars.flatMap (charB f.glyphs) ++ f.lookups.flatMap (lookupB f.glyphs) ++ (f.features.take k).flatMap featureB) wr) (fun i _ => f.features.length - (intOf i).toNat)
                            case atStart => exact ⟨0, Nat.zero_le _, rfl, by simpa using Hgy.out⟩
                            case round =>
                              obtain ⟨k, hk, rfl, hgy⟩ := hrel
                              clear l124 Hgy
                              have hkr : KP W0 wr := hgy.2.1
                              have hzr := hkr.size
                              have Hgy := Lib.hid hgy
                              by_cases hlt : k < f.features.length
                              · have hkb : k ≤ 10000000000 := Nat.le_trans (Nat.le_of_lt hlt) n4
                                have hTr : Tabs wr := hT.below hgy.2.2 hG
                                have hPr : PN wr (w.heap.size + 1) f.glyphs := hP0.kp hp0 hgy.1 hkr
                                have hpr := hgy.1
                                have hsl := hkr.sl FeatureR.ok s4
                                clear hgy
                                obtain ⟨b, o, y, E1, e1, rfl, -, hy, q0, q1, j1⟩ := hsl.feature hlt
                                have hsn := Lib.hid (flat_take_snoc featureB f.features k y hy.out)
                                have hle := flatB_take_succ_le featureB f.features k y hy.out
                                have hll : (T0 ++ f.axes.flatMap axisB ++ f.regions.flatMap regionB ++ cvtB f.cvt ++ f.funcs.flatMap funcB ++ f.glyphs.flatMap (glyphB f.glyphs) ++ f.chars.flatMap (charB f.glyphs) ++ f.lookups.flatMap (lookupB f.glyphs) ++ (f.features.take k).flatMap featureB).length + (featureB y).length ≤ 10000000000 := by simp only [List.length_append]; omega
                                obtain ⟨y0, y1⟩ := y
                                dsimp only at q0 q1 j1
                                have hw1 := line_words sFeature (y0 :: y1.map itB)
                                have hll2 : (T0 ++ f.axes.flatMap axisB ++ f.regions.flatMap regionB ++ cvtB f.cvt ++ f.funcs.flatMap funcB ++ f.glyphs.flatMap (glyphB f.glyphs) ++ f.chars.flatMap (charB f.glyphs) ++ f.lookups.flatMap (lookupB f.glyphs) ++ (f.features.take k).flatMap featureB).length + (lineB sFeature (y0 :: y1.map itB)).length ≤ 10000000000 := hll
                                have hyl : y1.length ≤ 10000000000 := by simp only [List.length_cons, List.length_map] at hw1; omega
                                have hnl : Hid (1 + y1.length = (y0 :: y1.map itB).length) := Lib.hid (by simp; omega)
                                have Hll3 : Hid ((T0 ++ f.axes.flatMap axisB ++ f.regions.flatMap regionB ++ cvtB f.cvt ++ f.funcs.flatMap funcB ++ f.glyphs.flatMap (glyphB f.glyphs) ++ f.chars.flatMap (charB f.glyphs) ++ f.lookups.flatMap (lookupB f.glyphs) ++ (f.features.take k).flatMap featureB).length + (lineB sFeature (y0 :: y1.map itB)).length ≤ 1000000000000 ∧ (y0 :: y1.map itB).length ≤ 1000000000000) := Lib.hid ⟨by omega, by omega⟩
                                clear hy hle hll hsl hll2 hw1
                                have hkj := hkr
                                go_wp2_with fail
                                obtain ⟨W2, hW2⟩ : ∃ W2, wr.alloc (.cells #[.string ⟨y0.toArray⟩, .slice E1 y1.length e1] 82) = W2 := ⟨_, rfl⟩
                                rw [hW2]
                                have hb0 : Below wr.heap.size wr W2 := by rw [← hW2]; exact (Below.refl _ _).alloc (Nat.le_refl _) _
                                have BV : Bk W2 wr.heap.size 82 #[.string ⟨y0.toArray⟩, .slice E1 y1.length e1] := by rw [← hW2]; exact Bk.new _ _ _
                                have zz0 := hb0.size
                                clear hW2 q0 q1
                                have hpr2 := hpr.below hb0
                                have hT2 := hTr.all hb0
                                have hsB := (KP.below hb0).sl IntR.ok j1
                                have hbL : Below W2.heap.size W2 (W2.alloc (.cells #[.string ⟨y0.toArray⟩] 9)) := (Below.refl _ _).alloc (Nat.le_refl _) _
                                have hTA := (hT2.all hbL).drew
                                have hTB := hT2.drew
                                have hsA : Sl IntR 1 (W2.alloc (.cells #[.string ⟨y0.toArray⟩] 9)).drew (FT (W2.alloc (.cells #[.string ⟨y0.toArray⟩] 9)).drew) E1 y1 := (KP.below (Below.refl _ _).drew).sl IntR.ok ((KP.below hbL).sl IntR.ok hsB)
                                have hsB2 : Sl IntR 1 W2.drew (FT W2.drew) E1 y1 := (KP.below (Below.refl _ _).drew).sl IntR.ok hsB
                                have hyl2 : y1.length ≤ 100000000000 := by omega
                                have hyl3 : 1 + y1.length ≤ 1000000000000 := by omega
                                have v0 : W2.cell? ⟨wr.heap.size, 0, none⟩ = some (.string ⟨y0.toArray⟩) := BV.cell 0
                                have v1 : W2.cell? ⟨wr.heap.size, 1, none⟩ = some (.slice E1 y1.length e1) := BV.cell 1
                                have hoL : (W2.alloc (.cells #[.string ⟨y0.toArray⟩] 9)).ownsRow W2.heap.size 9 1 (.slice (some ⟨W2.heap.size, 0, none⟩) 1 1) 1 [.string ⟨y0.toArray⟩] := lit_own W2 _ y0 (Nat.le_refl _)
                                have HbL := Lib.hid hbL
                                clear hbL
                                go_region_held3 (fun w' => w'.cell? ⟨wr.heap.size, 0, none⟩ = some (.string ⟨y0.toArray⟩) ∧ w'.cell? ⟨wr.heap.size, 1, none⟩ = some (.slice E1 y1.length e1))
                                  (first
                                    | exact ⟨(hkz.bk (BV.below hcz) (by decide) (by decide)).cell 0, (hkz.bk (BV.below hcz) (by decide) (by decide)).cell 1⟩
                                    | exact ⟨cellB hcz v0, cellB hcz v1⟩
                                    | exact ⟨cellA _ (cellB hcB v0), cellA _ (cellB hcB v1)⟩
                                    | exact ⟨cellB hcA v0, cellB hcA v1⟩
                                    | exact ⟨cellB hcB v0, cellB hcB v1⟩
                                    | go_keep)
                                  (first
                                    | (go_at_call 23; refine (numbers_ok (W2.alloc (.cells #[.string ⟨y0.toArray⟩] 9)).drew E1 e1 y1 hTA hsA hyl2).mono ?_; rintro e w1 ⟨Aw, cw, rfl, how, hb1⟩; have hc1 := unDrew hb1; have hcA := bt HbL.out hc1; have z1 := hcA.size; have hoA := own_below hoL hc1; have hrA := own_rd how (List.length_map itB))
                                    | (go_at_call 23; refine (numbers_ok W2.drew E1 e1 y1 hTB hsB2 hyl2).mono ?_; rintro e w1 ⟨Aw, cw, rfl, how, hb1⟩; have hcB := unDrew hb1; have z1 := hcB.size; have hoB := lit_own w1 W2.heap.size y0 z1; have hrB := rd_alloc (o := (.cells #[.string ⟨y0.toArray⟩] 9)) (own_rd how (List.length_map itB)))
                                    | (refine step_app (by rfl) (.tmp 131) (.tmp 134) (by rfl) w1 W2.heap.size 1 1 _ _ w1.heap.size Aw y1.length cw (y1.map itB) (by go_simp) (by go_simp) hoA hrA hyl3 z1 ?_; intro A4 c4 w4 ho4 hg4; have hcz := hcA.grown hg4 z1 (fun g e => (hoA.lt g e).1))
                                    | (refine step_app (by rfl) (.tmp 131) (.tmp 134) (by rfl) _ W2.heap.size 1 1 _ _ _ Aw y1.length cw (y1.map itB) (by go_simp) (by go_simp) hoB hrB hyl3 (alloc_le z1) ?_; intro A4 c4 w4 ho4 hg4; have hcz := (hcB.alloc z1 _).grown hg4 (alloc_le z1) (fun g e => (hoB.lt g e).1))
                                    | (go_at_call 20; refine (line_n w4 w.heap.size (w.heap.size + 1) fc _ sFeature A4 c4 (1 + y1.length) (y0 :: y1.map itB) hnl.out (hpr2.below hcz) (own_sl (ws := y0 :: y1.map itB) ho4) Hll3.out).mono ?_; rintro e wz ⟨rfl, hpz, hkz, hbz⟩))
                                all_goals
                                  go_wp2
                                  go_roundw
                                  case rel => exact ⟨k + 1, by omega, by simp, by rw [hsn.out, ← List.append_assoc]; exact hpz, Hgy.out.2.1.trans ((KP.below (bt hb0 hcz)).trans hkz), Hgy.out.2.2.trans (((bt hb0 hcz).mono (by omega)).trans hbz)⟩
                                  case measure => simp [intOf]; omega
                              · obtain rfl : k = f.features.length := by omega
                                rw [List.take_length] at Hgy
                                clear hkr hzr
                                obtain ⟨TT, hTT⟩ : ∃ TT, T0 ++ f.axes.flatMap axisB ++ f.regions.flatMap regionB ++ cvtB f.cvt ++ f.funcs.flatMap funcB ++ f.glyphs.flatMap (glyphB f.glyphs) ++ f.chars.flatMap (charB f.glyphs) ++ f.lookups.flatMap (lookupB f.glyphs) ++ f.features.flatMap featureB = TT := ⟨_, rfl⟩
                                have hpr := Hgy.out.1
                                have hbl := Hgy.out.2.2
                                rw [hTT] at hpr hne HF
                                clear hTT Hgy
                                go_wp2_with (go_at_call 28; refine (bString_ok wr w.heap.size (w.heap.size + 1) fc _ hpr hne.out).mono ?_; rintro e wz ⟨rfl, hbz⟩)
                                go_ret
                                rw [HF.out]
                                exact ⟨rfl, hbl.trans hbz⟩
end Go.Proofs.YtkijckccfookeaaDoor
