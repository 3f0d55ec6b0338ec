/- Plain facts: the corners of points. -/
import Derived.Test.YtfpdbdbgemolgaaBox
import Derived.Test.YtfpdbdbgemolgaaPure
namespace Go.Proofs.Ytfpdbdbgemolgaa
open Go.RowKit

theorem mnF_le (f : P3 → Int) (ps : List P3) : ∀ z, mnF f z ps ≤ z ∧ (∀ p ∈ ps, mnF f z ps ≤ f p) ∧ (mnF f z ps = z ∨ ∃ p ∈ ps, f p = mnF f z ps) := by
  induction ps with
  | nil => intro z; exact ⟨Int.le_refl _, by simp, .inl rfl⟩
  | cons q ps ih =>
    intro z
    obtain ⟨h1, h2, h3⟩ := ih (mnI z (f q))
    have e : mnF f z (q :: ps) = mnF f (mnI z (f q)) ps := rfl
    rw [e]
    have hm : mnI z (f q) ≤ z ∧ mnI z (f q) ≤ f q ∧ (mnI z (f q) = z ∨ mnI z (f q) = f q) := by unfold mnI; omega
    refine ⟨by omega, ?_, ?_⟩
    · intro p hp
      rcases List.mem_cons.1 hp with rfl | hp
      · omega
      · exact h2 p hp
    · rcases h3 with h | ⟨p, hp, h⟩
      · rcases hm.2.2 with h' | h'
        · exact .inl (by omega)
        · exact .inr ⟨q, by simp, by omega⟩
      · exact .inr ⟨p, by simp [hp], h⟩
theorem mxF_le (f : P3 → Int) (ps : List P3) : ∀ z, z ≤ mxF f z ps ∧ (∀ p ∈ ps, f p ≤ mxF f z ps) ∧ (mxF f z ps = z ∨ ∃ p ∈ ps, f p = mxF f z ps) := by
  induction ps with
  | nil => intro z; exact ⟨Int.le_refl _, by simp, .inl rfl⟩
  | cons q ps ih =>
    intro z
    obtain ⟨h1, h2, h3⟩ := ih (mxI z (f q))
    have e : mxF f z (q :: ps) = mxF f (mxI z (f q)) ps := rfl
    rw [e]
    have hm : z ≤ mxI z (f q) ∧ f q ≤ mxI z (f q) ∧ (mxI z (f q) = z ∨ mxI z (f q) = f q) := by unfold mxI; omega
    refine ⟨by omega, ?_, ?_⟩
    · intro p hp
      rcases List.mem_cons.1 hp with rfl | hp
      · omega
      · exact h2 p hp
    · rcases h3 with h | ⟨p, hp, h⟩
      · rcases hm.2.2 with h' | h'
        · exact .inl (by omega)
        · exact .inr ⟨q, by simp, by omega⟩
      · exact .inr ⟨p, by simp [hp], h⟩

/-- the corners bound each point, and are met -/
theorem corners (ps : List P3) (hne : ps ≠ []) : (∀ p ∈ ps, (lowP ps).1 ≤ p.1 ∧ p.1 ≤ (highP ps).1 ∧ (lowP ps).2 ≤ p.2.1 ∧ p.2.1 ≤ (highP ps).2) ∧
    (∃ p ∈ ps, p.1 = (lowP ps).1) ∧ (∃ p ∈ ps, p.1 = (highP ps).1) ∧ (∃ p ∈ ps, p.2.1 = (lowP ps).2) ∧ (∃ p ∈ ps, p.2.1 = (highP ps).2) := by
  cases ps with
  | nil => exact absurd rfl hne
  | cons q ps =>
    have a1 := mnF_le pX (q :: ps) q.1
    have a2 := mnF_le pY (q :: ps) q.2.1
    have a3 := mxF_le pX (q :: ps) q.1
    have a4 := mxF_le pY (q :: ps) q.2.1
    refine ⟨fun p hp => ⟨a1.2.1 p hp, a3.2.1 p hp, a2.2.1 p hp, a4.2.1 p hp⟩, ?_, ?_, ?_, ?_⟩
    · rcases a1.2.2 with h | ⟨p, hp, h⟩
      · exact ⟨q, by simp, h.symm⟩
      · exact ⟨p, hp, h⟩
    · rcases a3.2.2 with h | ⟨p, hp, h⟩
      · exact ⟨q, by simp, h.symm⟩
      · exact ⟨p, hp, h⟩
    · rcases a2.2.2 with h | ⟨p, hp, h⟩
      · exact ⟨q, by simp, h.symm⟩
      · exact ⟨p, hp, h⟩
    · rcases a4.2.2 with h | ⟨p, hp, h⟩
      · exact ⟨q, by simp, h.symm⟩
      · exact ⟨p, hp, h⟩
theorem mnF_map (f g : P3 → Int) (t : P3 → P3) (d : Int) (ps : List P3) : ∀ z, (∀ p ∈ ps, g (t p) = f p + d) → mnF g (z + d) (ps.map t) = mnF f z ps + d := by
  induction ps with
  | nil => intro z _; rfl
  | cons q ps ih =>
    intro z h
    show mnF g (mnI (z + d) (g (t q))) (ps.map t) = mnF f (mnI z (f q)) ps + d
    rw [h q (by simp), show mnI (z + d) (f q + d) = mnI z (f q) + d by unfold mnI; omega]
    exact ih _ (fun p hp => h p (by simp [hp]))
theorem mxF_map (f g : P3 → Int) (t : P3 → P3) (d : Int) (ps : List P3) : ∀ z, (∀ p ∈ ps, g (t p) = f p + d) → mxF g (z + d) (ps.map t) = mxF f z ps + d := by
  induction ps with
  | nil => intro z _; rfl
  | cons q ps ih =>
    intro z h
    show mxF g (mxI (z + d) (g (t q))) (ps.map t) = mxF f (mxI z (f q)) ps + d
    rw [h q (by simp), show mxI (z + d) (f q + d) = mxI z (f q) + d by unfold mxI; omega]
    exact ih _ (fun p hp => h p (by simp [hp]))
theorem corners_mv (ps : List P3) (hne : ps ≠ []) (x y : Int) (hx : ∀ p ∈ ps, wrap64 (p.1 + x) = p.1 + x ∧ wrap64 (p.2.1 + y) = p.2.1 + y) :
    lowP (ps.map (mv x y)) = ((lowP ps).1 + x, (lowP ps).2 + y) ∧ highP (ps.map (mv x y)) = ((highP ps).1 + x, (highP ps).2 + y) := by
  cases ps with
  | nil => exact absurd rfl hne
  | cons q ps =>
    have hq := hx q (by simp)
    have e1 : ∀ p ∈ q :: ps, pX (mv x y p) = pX p + x := fun p hp => (hx p hp).1
    have e2 : ∀ p ∈ q :: ps, pY (mv x y p) = pY p + y := fun p hp => (hx p hp).2
    have a1 := mnF_map pX pX (mv x y) x (q :: ps) q.1 e1
    have a2 := mnF_map pY pY (mv x y) y (q :: ps) q.2.1 e2
    have a3 := mxF_map pX pX (mv x y) x (q :: ps) q.1 e1
    have a4 := mxF_map pY pY (mv x y) y (q :: ps) q.2.1 e2
    have b1 : (mv x y q).1 = q.1 + x := hq.1
    have b2 : (mv x y q).2.1 = q.2.1 + y := hq.2
    constructor
    · show (mnF pX (mv x y q).1 ((q :: ps).map (mv x y)), mnF pY (mv x y q).2.1 ((q :: ps).map (mv x y))) = _
      rw [b1, b2, a1, a2]
      rfl
    · show (mxF pX (mv x y q).1 ((q :: ps).map (mv x y)), mxF pY (mv x y q).2.1 ((q :: ps).map (mv x y))) = _
      rw [b1, b2, a3, a4]
      rfl
theorem inR_iff (z : Int) : inR z = true ↔ -16384 ≤ z ∧ z ≤ 16384 := by simp [inR]
theorem rightB_true (ps : List P3) (es : List Int) (h : rightB ps es = true) : ps.length ≤ 200 ∧ es.length ≤ 40 ∧ (∀ p ∈ ps, (-16384 ≤ p.1 ∧ p.1 ≤ 16384) ∧ (-16384 ≤ p.2.1 ∧ p.2.1 ≤ 16384)) ∧ endsR ps.length (-1) es = true := by
  simp only [rightB, Bool.and_eq_true, decide_eq_true_eq, List.all_eq_true] at h
  refine ⟨h.1.1.1, h.1.1.2, fun p hp => ?_, h.2⟩
  have := h.1.2 p hp
  rw [inR_iff, inR_iff] at this
  exact this
end Go.Proofs.Ytfpdbdbgemolgaa
