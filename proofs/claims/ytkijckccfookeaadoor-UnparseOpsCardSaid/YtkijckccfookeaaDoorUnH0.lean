/- Words for the printing of a glyph. -/
import Derived.Test.YtkijckccfookeaaDoorGive2
namespace Go.Proofs.YtkijckccfookeaaDoor
open Go.RowKit Go.Shelf

/-- cells that are elements of a flat form -/
theorem Fl.flat {α : Type} {R : Rel α} {size : Nat} (f : α → List Value) (hf : ∀ x, (f x).length = size) (hR : ∀ w S cs x, R w S cs x → cs = f x) {w : World} {S : Bs} {cells : List Value} {xs : List α} (h : Fl R size w S cells xs) : cells = xs.flatMap f := by
  induction xs generalizing cells with
  | nil => simpa [Fl] using h.1
  | cons x xs ih =>
    have hl := h.1
    simp only [List.length_cons] at hl
    obtain ⟨cs, r1, r2, r3⟩ := h.2 0 x rfl
    obtain rfl := hR _ _ _ _ r1
    have e1 : cells.take size = f x := by
      apply List.ext_getElem?
      intro i
      by_cases hi : i < size
      · have : i < (f x).length := by rw [hf]; exact hi
        have h2 := r3 i _ (List.getElem?_eq_getElem this)
        rw [List.getElem?_take, if_pos hi]
        rw [Nat.zero_mul, Nat.zero_add] at h2
        rw [h2, List.getElem?_eq_getElem this]
      · rw [List.getElem?_eq_none (by simp; omega), List.getElem?_eq_none (by rw [hf]; omega)]
    have e2 : cells.drop size = xs.flatMap f := by
      apply ih
      refine ⟨by simp [hl, Nat.add_mul], fun k y hy => ?_⟩
      obtain ⟨cs, s1, s2, s3⟩ := h.2 (k + 1) y (by simpa using hy)
      refine ⟨cs, s1, s2, fun j u hu => ?_⟩
      rw [List.getElem?_drop, show size + (k * size + j) = (k + 1) * size + j by rw [Nat.add_mul]; omega]
      exact s3 j u hu
    rw [List.flatMap_cons, ← e1, ← e2, List.take_append_drop]
def cPt (p : Pt) : List Value := [.int .i64 p.x, .int .i64 p.y, .bool p.on]
def cPts (l : List Pt) : List Value := l.flatMap cPt
theorem cPts_one (l : List Pt) : ∀ u ∈ cPts l, u.oneCell' = true := by
  intro u hu
  simp only [cPts, List.mem_flatMap] at hu
  obtain ⟨p, _, hp⟩ := hu
  simp only [cPt, List.mem_cons, List.not_mem_nil, or_false] at hp
  rcases hp with rfl | rfl | rfl <;> rfl
theorem Sl.rd {α : Type} {R : Rel α} {size : Nat} (f : α → List Value) (hf : ∀ x, (f x).length = size) (hR : ∀ w S cs x, R w S cs x → cs = f x) {w : World} {A : Option Addr} {xs : List α} (h : Sl R size w (FT w) A xs) : Rd w w.heap.size A xs.length size (xs.flatMap f) := by
  obtain ⟨cells, h1, h2⟩ := h
  have e := h1.flat f hf hR
  subst e
  exact ⟨h1.1, fun h0 => by
    obtain ⟨b, o, e, hb, hc⟩ := h2 h0
    obtain ⟨ob, hb1, -⟩ := hb
    exact ⟨b, o, e, (Array.getElem?_eq_some_iff.1 hb1).1, hc⟩⟩
theorem Sl.rdPts {w : World} {A : Option Addr} {xs : List Pt} (h : Sl PtR 3 w (FT w) A xs) : Rd w w.heap.size A xs.length 3 (cPts xs) := h.rd cPt (fun _ => rfl) (fun _ _ _ _ h => h.1)
theorem flat_ints (xs : List Int) : xs.flatMap (fun z => [Value.int .i64 z]) = cIs xs := by
  induction xs with
  | nil => rfl
  | cons x xs ih => rw [List.flatMap_cons, ih]; rfl
theorem Sl.rdInts {w : World} {A : Option Addr} {xs : List Int} (h : Sl IntR 1 w (FT w) A xs) : Rd w w.heap.size A xs.length 1 (cIs xs) := by
  have := h.rd (fun z => [.int .i64 z]) (fun _ => rfl) (fun _ _ _ _ h => h.1)
  rwa [flat_ints] at this
theorem ptsI {w : World} {A : Option Addr} {xs : List Pt} (h : Sl PtR 3 w (FT w) A xs) : ∀ p ∈ xs, I64 p.x ∧ I64 p.y := by
  intro p hp
  obtain ⟨k, hk⟩ := List.mem_iff_getElem?.1 hp
  obtain ⟨b, o, x, -, -, hx, -, -, -, r0, r1⟩ := h.pt (List.getElem?_eq_some_iff.1 hk).1
  have := hx.out
  rw [hk] at this
  cases this
  exact ⟨r0, r1⟩
/-- the points of a contour -/
def cutP (pts : List Pt) (f e : Nat) : List Pt := (pts.take (e + 1)).drop f
theorem cPts_get (pts : List Pt) (k : Nat) (p : Pt) (h : pts[k]? = some p) : (cPts pts)[k * 3]? = some (.int .i64 p.x) ∧ (cPts pts)[k * 3 + 1]? = some (.int .i64 p.y) ∧ (cPts pts)[k * 3 + 2]? = some (.bool p.on) := by
  induction pts generalizing k with
  | nil => simp at h
  | cons q ps ih =>
    cases k with
    | zero => simp at h; subst h; simp [cPts, cPt]
    | succ k =>
      have := ih k (by simpa using h)
      have e : cPts (q :: ps) = cPt q ++ cPts ps := rfl
      simp only [e]
      refine ⟨?_, ?_, ?_⟩ <;> rw [List.getElem?_append_right (by simp [cPt]; omega)] <;> simp only [cPt, List.length_cons, List.length_nil]
      · rw [show (k + 1) * 3 - (0 + 1 + 1 + 1) = k * 3 by omega]; exact this.1
      · rw [show (k + 1) * 3 + 1 - (0 + 1 + 1 + 1) = k * 3 + 1 by omega]; exact this.2.1
      · rw [show (k + 1) * 3 + 2 - (0 + 1 + 1 + 1) = k * 3 + 2 by omega]; exact this.2.2
theorem rdT_cut {W : World} {g n : Nat} {pts : List Pt} (h : RdT W 146 (some ⟨g, 0, none⟩) n 3 (cPts pts)) (hn : n = pts.length) (hI : ∀ p ∈ pts, I64 p.x ∧ I64 p.y) (f e : Nat) (hfe : f ≤ e) (he : e < n) : Sl PtR 3 W (FT W) (some ⟨g, f * 3, none⟩) (cutP pts f e) := by
  obtain ⟨b, o, cur, e1, hb, hc⟩ := h.2 (by omega)
  simp only [Option.some.injEq, Addr.mk.injEq, and_true] at e1
  obtain ⟨rfl, rfl⟩ := e1
  have key : ∀ k x, (cutP pts f e)[k]? = some x → pts[f + k]? = some x := by
    intro k x hx
    rw [cutP, List.getElem?_drop, List.getElem?_take] at hx
    split at hx
    · exact hx
    · cases hx
  refine ⟨cPts (cutP pts f e), ⟨?_, fun k x hx => ?_⟩, fun _ => ⟨g, f * 3, rfl, ft_bk hb (by decide) (by decide), fun j u hu => ?_⟩⟩
  · have : ∀ l : List Pt, (cPts l).length = l.length * 3 := by
      intro l
      induction l with
      | nil => rfl
      | cons x l ih => simp only [cPts, List.flatMap_cons, List.length_append, cPt, List.length_cons, List.length_nil] at ih ⊢; omega
    exact this _
  · refine ⟨cPt x, ⟨rfl, hI x (List.mem_of_getElem? (key k x hx))⟩, rfl, fun j u hu => ?_⟩
    obtain ⟨q0, q1, q2⟩ := cPts_get _ k x hx
    match j, hu with
    | 0, hu => simp [cPt] at hu; subst hu; exact q0
    | 1, hu => simp [cPt] at hu; subst hu; exact q1
    | 2, hu => simp [cPt] at hu; subst hu; exact q2
  · rw [Bk.cell hb]
    have h5 : (cPts pts)[f * 3 + j]? = some u := by
      have e2 : cPts (cutP pts f e) = ((cPts pts).take ((e + 1) * 3)).drop (f * 3) := by
        have a1 : ∀ (l : List Pt) (k : Nat), cPts (l.take k) = (cPts l).take (k * 3) := by
          intro l
          induction l with
          | nil => intro k; simp [cPts]
          | cons x l ih =>
            intro k
            cases k with
            | zero => simp [cPts]
            | succ k =>
              have := ih k
              simp only [cPts, List.take_succ_cons, List.flatMap_cons] at this ⊢
              rw [this, show (k + 1) * 3 = k * 3 + 3 by omega]
              simp [cPt]
        have a2 : ∀ (l : List Pt) (k : Nat), cPts (l.drop k) = (cPts l).drop (k * 3) := by
          intro l
          induction l with
          | nil => intro k; simp [cPts]
          | cons x l ih =>
            intro k
            cases k with
            | zero => simp [cPts]
            | succ k =>
              have := ih k
              simp only [cPts, List.drop_succ_cons, List.flatMap_cons] at this ⊢
              rw [this, show (k + 1) * 3 = k * 3 + 3 by omega]
              simp [cPt]
        rw [cutP, a2, a1]
      rw [e2, List.getElem?_drop, List.getElem?_take] at hu
      split at hu
      · exact hu
      · cases hu
    have := hc _ _ h5
    rwa [Nat.zero_add] at this
theorem cutP_len (pts : List Pt) (f e : Nat) (h : e < pts.length) : (cutP pts f e).length = e + 1 - f := by
  simp [cutP]
  omega
/-- a contour as a line -/
def contB (pts : List Pt) (x : Pc4) : B := lineB sContour ((cutP pts x.2.1 x.2.2.1).map ptB)
theorem conts_eq (pts : List Pt) (es : List Int) : ∀ (k f : Nat), (pcsF pts.length k f es).map (fun p => cutP pts p.2.1 p.2.2) = contsFrom pts f es := by
  induction es with
  | nil => intro k f; rfl
  | cons e es ih =>
    intro k f
    rw [pcsF, contsFrom]
    by_cases h : (f : Int) ≤ e ∧ e < (pts.length : Int)
    · rw [if_pos h, if_neg (by omega), List.map_cons, ih]
      rfl
    · rw [if_neg h, if_pos (by omega)]
      rfl
theorem conts_flat (pts : List Pt) (es : List Int) (g : Nat) : (atG g (pcsF pts.length 0 0 es)).flatMap (contB pts) = (contsFrom pts 0 es).flatMap (fun c => lineB sContour (c.map ptB)) := by
  rw [← conts_eq pts es 0 0, atG, List.flatMap_map, List.flatMap_map]
  rfl
/-- how the printing of a glyph stands: what is printed, and that nothing else has changed -/
def GyI (w W0 : World) (Bd g : Nat) (fc : Nat → Value) (T : B) (W : World) : Prop := Pr W Bd g fc T ∧ KP W0 W ∧ Below Bd w W
theorem pr_put {W W' : World} {Bd g : Nat} {fc : Nat → Value} {T : B} {row : Option Nat} (h : Pr W Bd g fc T) (hg : W.grownBy W' row) (hr : ∀ r, row = some r → ∃ o : Obj, W.heap[r]? = some o ∧ o.isCells = false) : Pr W' Bd g fc T := by
  obtain ⟨ad, v, h1, h2, h3, h4⟩ := h
  refine ⟨ad, v, h1, (grownBy_keeps_cells hg hr h2 rfl).trans h2, h3, h4.kept hg ?_⟩
  cases hrow : row with
  | none => cases hv : v.ownBlock <;> simp
  | some r =>
    refine .inr (fun e => ?_)
    obtain ⟨o, ho, hc⟩ := hr r hrow
    obtain ⟨cur, hk⟩ := own_bk h4 r e
    have hk2 : W.heap[r]? = _ := hk
    rw [hk2] at ho
    cases ho
    cases hc
theorem kp_put {W0 W W' : World} {row : Option Nat} (h : KP W0 W) (hg : W.grownBy W' row) (hr : ∀ r, row = some r → W0.heap.size ≤ r) : KP W0 W' :=
  ⟨fun b o hb hn => by
    have h1 := h.same b o hb hn
    refine (hg.block b (Array.getElem?_eq_some_iff.1 h1).1 (fun e => ?_)).trans h1
    have := hr b e.symm
    have := (Array.getElem?_eq_some_iff.1 hb).1
    omega, Nat.le_trans h.size hg.size⟩
theorem gyI_own {w W0 : World} {Bd g B0 : Nat} {fc : Nat → Value} (F : List Pc4 → B) (hB : W0.heap.size ≤ B0) (hw : Bd ≤ W0.heap.size) : OwnFrom B0 (fun pre W => GyI w W0 Bd g fc (F pre) W) := by
  intro s A C row hs hg hr
  obtain ⟨h1, h2, h3⟩ := hs
  refine ⟨pr_put h1 hg (fun r e => (hr r e).2), kp_put h2 hg (fun r e => Nat.le_trans hB (hr r e).1), ?_⟩
  exact h3.grown hg (Nat.le_trans hw h2.size) (fun r e => Nat.le_trans (Nat.le_trans hw hB) (hr r e).1)
end Go.Proofs.YtkijckccfookeaaDoor
