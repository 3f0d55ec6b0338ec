/- Plain facts: numbers that go round; rows that are reversed; areas. -/
import Derived.Test.YtfpdbdbgemolgaaReversed
import Derived.Test.YtfpdbdbgemolgaaRight
namespace Go.Proofs.Ytfpdbdbgemolgaa
open Go.RowKit

/-- equal but for whole rounds -/
def Cg (a b : Int) : Prop := ∃ k : Int, a = b + 18446744073709551616 * k
theorem Cg.refl (a : Int) : Cg a a := ⟨0, by omega⟩
theorem Cg.symm {a b : Int} (h : Cg a b) : Cg b a := by obtain ⟨k, rfl⟩ := h; exact ⟨-k, by omega⟩
theorem Cg.trans {a b c : Int} (h : Cg a b) (h' : Cg b c) : Cg a c := by obtain ⟨k, rfl⟩ := h; obtain ⟨j, rfl⟩ := h'; exact ⟨k + j, by omega⟩
theorem Cg.add {a b c d : Int} (h : Cg a b) (h' : Cg c d) : Cg (a + c) (b + d) := by obtain ⟨k, rfl⟩ := h; obtain ⟨j, rfl⟩ := h'; exact ⟨k + j, by omega⟩
theorem Cg.sub {a b c d : Int} (h : Cg a b) (h' : Cg c d) : Cg (a - c) (b - d) := by obtain ⟨k, rfl⟩ := h; obtain ⟨j, rfl⟩ := h'; exact ⟨k - j, by omega⟩
theorem Cg.mul {a b c d : Int} (h : Cg a b) (h' : Cg c d) : Cg (a * c) (b * d) := by
  obtain ⟨k, rfl⟩ := h
  obtain ⟨j, rfl⟩ := h'
  refine ⟨b * j + k * d + 18446744073709551616 * (k * j), ?_⟩
  rw [Int.add_mul, Int.mul_add, Int.mul_add, Int.mul_add, Int.mul_add]
  have e1 : b * (18446744073709551616 * j) = 18446744073709551616 * (b * j) := by rw [← Int.mul_assoc, Int.mul_comm b, Int.mul_assoc]
  have e2 : 18446744073709551616 * k * d = 18446744073709551616 * (k * d) := Int.mul_assoc _ _ _
  have e3 : 18446744073709551616 * k * (18446744073709551616 * j) = 18446744073709551616 * (18446744073709551616 * (k * j)) := by rw [Int.mul_assoc, ← Int.mul_assoc k, Int.mul_comm k, Int.mul_assoc]
  rw [e1, e2, e3]
  omega
theorem Cg.wrap (a : Int) : Cg (wrap64 a) a := ⟨-((a + 9223372036854775808) / 18446744073709551616), by unfold wrap64; omega⟩
theorem wrap_of_cg {a b : Int} (h : Cg a b) : wrap64 a = wrap64 b := by obtain ⟨k, rfl⟩ := h; unfold wrap64; omega
theorem wrap_wrap (a : Int) : wrap64 (wrap64 a) = wrap64 a := wrap_of_cg (Cg.wrap a)
theorem eq_of_cg {a b : Int} (ha : wrap64 a = a) (hb : wrap64 b = b) (h : Cg a b) : a = b := by rw [← ha, ← hb]; exact wrap_of_cg h
theorem wfw {z : Int} (h : (Lit.int .i64 z).wf = true) : wrap64 z = z := by
  simp only [Lit.wf, Bool.and_eq_true, decide_eq_true_eq] at h
  have e1 : IntKind.i64.min = -9223372036854775808 := by decide
  have e2 : IntKind.i64.max = 9223372036854775807 := by decide
  rw [e1, e2] at h
  exact IntWalk.wrap64_in _ h

/-- a sum of so many -/
def sumN (g : Nat → Int) : Nat → Int
  | 0 => 0
  | n + 1 => sumN g n + g n
theorem sumN_congr {g h : Nat → Int} {n : Nat} (e : ∀ i, i < n → g i = h i) : sumN g n = sumN h n := by
  induction n with
  | zero => rfl
  | succ n ih => rw [sumN, sumN, ih (fun i hi => e i (by omega)), e n (by omega)]
theorem sumN_front (g : Nat → Int) (n : Nat) : sumN g (n + 1) = g 0 + sumN (fun i => g (i + 1)) n := by
  induction n with
  | zero => simp [sumN]
  | succ n ih => rw [sumN, ih, sumN]; omega
theorem sumN_rev (g : Nat → Int) (n : Nat) : sumN (fun i => g (n - 1 - i)) n = sumN g n := by
  induction n with
  | zero => rfl
  | succ n ih =>
    rw [sumN_front, sumN]
    have : sumN (fun i => g (n + 1 - 1 - (i + 1))) n = sumN (fun i => g (n - 1 - i)) n := sumN_congr (fun i _ => by rw [show n + 1 - 1 - (i + 1) = n - 1 - i by omega])
    rw [this, ih]
    simp only [Nat.add_sub_cancel, Nat.sub_zero]
    omega
theorem sumN_neg (g : Nat → Int) (n : Nat) : sumN (fun i => - g i) n = - sumN g n := by
  induction n with
  | zero => rfl
  | succ n ih => rw [sumN, sumN, ih]; omega
theorem sumN_add (g h : Nat → Int) (n : Nat) : sumN (fun i => g i + h i) n = sumN g n + sumN h n := by
  induction n with
  | zero => rfl
  | succ n ih => rw [sumN, sumN, sumN, ih]; omega
theorem sumN_mul (c : Int) (g : Nat → Int) (n : Nat) : sumN (fun i => c * g i) n = c * sumN g n := by
  induction n with
  | zero => simp [sumN]
  | succ n ih => rw [sumN, sumN, ih, Int.mul_add]
theorem sumN_tel (g : Nat → Int) (n : Nat) : sumN (fun i => g (i + 1) - g i) n = g n - g 0 := by
  induction n with
  | zero => simp [sumN]
  | succ n ih => rw [sumN, ih]; omega
/-- going round, the differences come to nothing -/
theorem sumN_round (g : Nat → Int) (n : Nat) (_hn : 0 < n) : sumN (fun i => g ((i + 1) % n) - g i) n = 0 := by
  have h := sumN_tel (fun i => g (i % n)) n
  simp only [Nat.mod_self, Nat.zero_mod] at h
  rw [← Int.sub_self (g 0), ← h]
  exact sumN_congr (fun i hi => by rw [Nat.mod_eq_of_lt hi])
theorem sumN_cg {g h : Nat → Int} {n : Nat} (e : ∀ i, i < n → Cg (g i) (h i)) : Cg (sumN g n) (sumN h n) := by
  induction n with
  | zero => exact Cg.refl _
  | succ n ih => exact (ih (fun i hi => e i (by omega))).add (e n (by omega))

def gx (c : List P3) (i : Nat) : Int := (c.getD i (0, 0, false)).1
def gy (c : List P3) (i : Nat) : Int := (c.getD i (0, 0, false)).2.1
def term (c : List P3) (i : Nat) : Int := gx c i * gy c ((i + 1) % c.length) - gx c ((i + 1) % c.length) * gy c i
theorem arSt_cg (c : List P3) (k : Nat) (z : Int) (h : k < c.length) : Cg (arSt c k z) (z + term c k) ∧ wrap64 (arSt c k z) = arSt c k z := by
  have h2 : (k + 1) % c.length < c.length := Nat.mod_lt _ (by omega)
  unfold arSt term gx gy
  rw [List.getElem?_eq_getElem h, List.getElem?_eq_getElem h2]
  simp only [List.getD_eq_getElem?_getD, List.getElem?_eq_getElem h, List.getElem?_eq_getElem h2, Option.getD_some]
  exact ⟨(Cg.wrap _).trans ((Cg.refl _).add ((Cg.wrap _).trans ((Cg.wrap _).sub (Cg.wrap _)))), wrap_wrap _⟩
theorem arTo_cg (c : List P3) (z : Int) : ∀ k, k ≤ c.length → Cg (arTo c k z) (z + sumN (term c) k) ∧ (wrap64 z = z → wrap64 (arTo c k z) = arTo c k z) := by
  intro k
  induction k with
  | zero => intro _; exact ⟨by simpa [arTo, sumN] using Cg.refl z, fun h => h⟩
  | succ k ih =>
    intro hk
    obtain ⟨h1, h2⟩ := arSt_cg c k (arTo c k z) (by omega)
    refine ⟨?_, fun _ => h2⟩
    rw [sumN, ← Int.add_assoc]
    exact h1.trans (((ih (by omega)).1).add (Cg.refl _))
def area1 (c : List P3) : Int := sumN (term c) c.length
theorem arC_cg (c : List P3) (z : Int) : Cg (arC c z) (z + area1 c) ∧ (wrap64 z = z → wrap64 (arC c z) = arC c z) := arTo_cg c z _ (Nat.le_refl _)
theorem arAll_cg (ps : List P3) (l : List (Nat × Nat × Nat)) : ∀ z, Cg (l.foldl (fun z p => arC (seg ps p.2.1 p.2.2) z) z) (z + (l.map fun p => area1 (seg ps p.2.1 p.2.2)).sum) ∧
    (wrap64 z = z → wrap64 (l.foldl (fun z p => arC (seg ps p.2.1 p.2.2) z) z) = l.foldl (fun z p => arC (seg ps p.2.1 p.2.2) z) z) := by
  induction l with
  | nil => intro z; exact ⟨by simpa using Cg.refl z, fun h => h⟩
  | cons p l ih =>
    intro z
    obtain ⟨h1, h2⟩ := arC_cg (seg ps p.2.1 p.2.2) z
    obtain ⟨h3, h4⟩ := ih (arC (seg ps p.2.1 p.2.2) z)
    refine ⟨?_, fun h => h4 (h2 h)⟩
    simp only [List.foldl_cons, List.map_cons, List.sum_cons]
    rw [← Int.add_assoc]
    exact h3.trans (h1.add (Cg.refl _))
def areaS (ps : List P3) (l : List (Nat × Nat × Nat)) : Int := (l.map fun p => area1 (seg ps p.2.1 p.2.2)).sum
theorem arAll_eq (ps : List P3) (l : List (Nat × Nat × Nat)) : arAll ps l = wrap64 (areaS ps l) := by
  obtain ⟨h1, h2⟩ := arAll_cg ps l 0
  have h3 : wrap64 (arAll ps l) = arAll ps l := h2 (by unfold wrap64; omega)
  rw [← h3]
  rw [Int.zero_add] at h1
  exact wrap_of_cg h1

/-- pieces in order: each begins behind the one ahead -/
def Srt (len : Nat) : Nat → List (Nat × Nat × Nat) → Prop
  | _, [] => True
  | f, p :: l => f ≤ p.2.1 ∧ p.2.1 ≤ p.2.2 ∧ p.2.2 < len ∧ Srt len (p.2.2 + 1) l
theorem pcsF_srt (len : Nat) (es : List Int) : ∀ k f, Srt len f (pcsF len k f es) := by
  induction es with
  | nil => intro k f; simp [pcsF, Srt]
  | cons e es ih =>
    intro k f
    rw [pcsF]
    split
    · rename_i h
      exact ⟨Nat.le_refl _, by dsimp only; omega, by dsimp only; omega, ih _ _⟩
    · trivial
def ixL : List (Nat × Nat × Nat) → Nat → Nat
  | [], t => t
  | p :: l, t => rIx p.2.1 p.2.2 (ixL l t)
theorem rIx_low {f e t : Nat} (h : t ≤ f) : rIx f e t = t := by unfold rIx; rw [if_neg (by omega)]
theorem rIx_high {f e t : Nat} (h : e < t) : rIx f e t = t := by unfold rIx; rw [if_neg (by omega)]
theorem ixL_low (len : Nat) : ∀ (l : List (Nat × Nat × Nat)) (f t : Nat), Srt len f l → t < f → ixL l t = t := by
  intro l
  induction l with
  | nil => intro f t _ _; rfl
  | cons p l ih =>
    intro f t h ht
    obtain ⟨h1, h2, h3, h4⟩ := h
    rw [ixL, ih (p.2.2 + 1) t h4 (by omega), rIx_low (by omega)]
theorem ixL_high (len : Nat) : ∀ (l : List (Nat × Nat × Nat)) (f t : Nat), Srt len f l → f ≤ t → f ≤ ixL l t := by
  intro l
  induction l with
  | nil => intro f t _ h; exact h
  | cons p l ih =>
    intro f t h ht
    obtain ⟨h1, h2, h3, h4⟩ := h
    rw [ixL]
    by_cases hlt : t < p.2.2 + 1
    · rw [ixL_low len l _ t h4 hlt]
      unfold rIx
      split <;> omega
    · have := ih (p.2.2 + 1) t h4 (by omega)
      rw [rIx_high (by omega)]
      omega
theorem ixL_cons (len : Nat) (p : Nat × Nat × Nat) (l : List (Nat × Nat × Nat)) (f t : Nat) (h : Srt len f (p :: l)) : ixL (p :: l) t = if t ≤ p.2.2 then rIx p.2.1 p.2.2 t else ixL l t := by
  obtain ⟨h1, h2, h3, h4⟩ := h
  rw [ixL]
  split
  · rw [ixL_low len l _ t h4 (by omega)]
  · have := ixL_high len l (p.2.2 + 1) t h4 (by omega)
    rw [rIx_high (by omega)]
theorem rIx_rIx (f e t : Nat) : rIx f e (rIx f e t) = t := by
  unfold rIx
  split
  · rw [if_pos (by omega)]; omega
  · rfl
theorem rIx_le {f e t : Nat} (h : t ≤ e) : rIx f e t ≤ e := by unfold rIx; split <;> omega
theorem ixL_ixL (len : Nat) : ∀ (l : List (Nat × Nat × Nat)) (f t : Nat), Srt len f l → ixL l (ixL l t) = t := by
  intro l
  induction l with
  | nil => intro f t _; rfl
  | cons p l ih =>
    intro f t h
    rw [ixL_cons len p l f t h, ixL_cons len p l f _ h]
    split
    · rw [if_pos (rIx_le (by assumption)), rIx_rIx]
    · have := ixL_high len l (p.2.2 + 1) t h.2.2.2 (by omega)
      rw [if_neg (by omega)]
      exact ih _ t h.2.2.2
theorem revS_get (ps : List P3) (p : Nat × Nat × Nat) (hp : p.2.2 < ps.length) (t : Nat) : (revS ps p)[t]? = ps[rIx p.2.1 p.2.2 t]? := by
  unfold revS byIdx
  by_cases ht : t < ps.length
  · have hr : rIx p.2.1 p.2.2 t < ps.length := by unfold rIx; split <;> omega
    simp [ht, hr]
  · rw [rIx_high (by omega), List.getElem?_eq_none (by simp; omega), List.getElem?_eq_none (by omega)]
theorem revAll_get : ∀ (l : List (Nat × Nat × Nat)) (ps : List P3) (f t : Nat), Srt ps.length f l → (revAll ps l)[t]? = ps[ixL l t]? := by
  intro l
  induction l with
  | nil => intro ps f t _; rfl
  | cons p l ih =>
    intro ps f t h
    obtain ⟨h1, h2, h3, h4⟩ := h
    show (revAll (revS ps p) l)[t]? = _
    rw [ih (revS ps p) (p.2.2 + 1) t (by rw [revS_length]; exact h4), revS_get ps p h3, ixL]
theorem revAll_revAll (ps : List P3) (l : List (Nat × Nat × Nat)) (f : Nat) (h : Srt ps.length f l) : revAll (revAll ps l) l = ps := by
  apply List.ext_getElem?
  intro t
  rw [revAll_get l (revAll ps l) f t (by rw [revAll_length]; exact h), revAll_get l ps f _ h, ixL_ixL _ l f t h]
theorem ixL_at (len : Nat) : ∀ (l : List (Nat × Nat × Nat)) (f : Nat), Srt len f l → ∀ p ∈ l, ∀ t, p.2.1 ≤ t → t ≤ p.2.2 → ixL l t = rIx p.2.1 p.2.2 t ∧ f ≤ t := by
  intro l
  induction l with
  | nil => intro f _ p hp; simp at hp
  | cons q l ih =>
    intro f h p hp t h1 h2
    rcases List.mem_cons.1 hp with rfl | hp
    · rw [ixL_cons len p l f t h, if_pos h2]
      exact ⟨rfl, by have := h.1; omega⟩
    · obtain ⟨h3, h4⟩ := ih _ h.2.2.2 p hp t h1 h2
      rw [ixL_cons len q l f t h, if_neg (by omega)]
      exact ⟨h3, by have := h.1; have := h.2.1; omega⟩

/-- a contour the other way round, from its first point on -/
def turn (c : List P3) : List P3 := (List.range c.length).map fun i => c.getD ((c.length - i) % c.length) (0, 0, false)
theorem turn_length (c : List P3) : (turn c).length = c.length := by simp [turn]
theorem seg_get {α : Type} (ps : List α) (f e i : Nat) (h : i < e + 1 - f) : (seg ps f e)[i]? = ps[f + i]? := by
  rw [seg, List.getElem?_take, if_pos h, List.getElem?_drop]
theorem turn_get (c : List P3) (i : Nat) (h : i < c.length) : (turn c)[i]? = c[(c.length - i) % c.length]? := by
  have h2 : (c.length - i) % c.length < c.length := Nat.mod_lt _ (by omega)
  simp [turn, h, h2]
theorem seg_revAll (ps : List P3) (l : List (Nat × Nat × Nat)) (f : Nat) (h : Srt ps.length f l) (p : Nat × Nat × Nat) (hp : p ∈ l) (hb : p.2.1 ≤ p.2.2 ∧ p.2.2 < ps.length) : seg (revAll ps l) p.2.1 p.2.2 = turn (seg ps p.2.1 p.2.2) := by
  have hl : (seg ps p.2.1 p.2.2).length = p.2.2 + 1 - p.2.1 := seg_length _ _ _ hb.2
  apply List.ext_getElem?
  intro i
  by_cases hi : i < p.2.2 + 1 - p.2.1
  · rw [seg_get _ _ _ _ hi, turn_get _ _ (by omega), hl, revAll_get l ps f _ h, (ixL_at ps.length l f h p hp (p.2.1 + i) (by omega) (by omega)).1, seg_get _ _ _ _ (Nat.mod_lt _ (by omega))]
    congr 1
    unfold rIx
    by_cases h0 : i = 0
    · subst h0
      rw [if_neg (by omega), Nat.sub_zero, Nat.mod_self]
    · rw [if_pos (by omega), Nat.mod_eq_of_lt (by omega)]
      omega
  · rw [List.getElem?_eq_none (by rw [seg_length _ _ _ (by rw [revAll_length]; exact hb.2)]; omega), List.getElem?_eq_none (by rw [turn_length]; omega)]
theorem srt_mem (len : Nat) : ∀ (l : List (Nat × Nat × Nat)) (f : Nat), Srt len f l → ∀ p ∈ l, p.2.1 ≤ p.2.2 ∧ p.2.2 < len := by
  intro l
  induction l with
  | nil => intro f _ p hp; simp at hp
  | cons q l ih =>
    intro f h p hp
    rcases List.mem_cons.1 hp with rfl | hp
    · exact ⟨h.2.1, h.2.2.1⟩
    · exact ih _ h.2.2.2 p hp
theorem gx_turn (c : List P3) (i : Nat) (h : i < c.length) : gx (turn c) i = gx c ((c.length - i) % c.length) ∧ gy (turn c) i = gy c ((c.length - i) % c.length) := by
  unfold gx gy
  simp only [List.getD_eq_getElem?_getD]
  rw [turn_get c i h]
  exact ⟨rfl, rfl⟩
theorem area1_turn (c : List P3) : area1 (turn c) = - area1 c := by
  unfold area1
  rw [turn_length, ← sumN_neg, ← sumN_rev (fun i => - term c i)]
  refine sumN_congr (fun i hi => ?_)
  unfold term
  rw [turn_length]
  have h2 : (i + 1) % c.length < c.length := Nat.mod_lt _ (by omega)
  rw [(gx_turn c i hi).1, (gx_turn c i hi).2, (gx_turn c _ h2).1, (gx_turn c _ h2).2]
  have e1 : (c.length - 1 - i + 1) % c.length = (c.length - i) % c.length := by congr 1; omega
  have e2 : (c.length - (i + 1) % c.length) % c.length = c.length - 1 - i := by
    by_cases hh : i + 1 = c.length
    · rw [hh, Nat.mod_self, Nat.sub_zero, Nat.mod_self]; omega
    · rw [Nat.mod_eq_of_lt (show i + 1 < c.length by omega), Nat.mod_eq_of_lt (by omega)]; omega
  rw [e1, e2, Int.mul_comm (gx c ((c.length - i) % c.length)), Int.mul_comm (gx c (c.length - 1 - i))]
  omega
theorem sum_map_neg {α : Type} (l : List α) (g h : α → Int) (e : ∀ p ∈ l, g p = - h p) : (l.map g).sum = - (l.map h).sum := by
  induction l with
  | nil => rfl
  | cons p l ih =>
    simp only [List.map_cons, List.sum_cons]
    rw [e p (by simp), ih (fun q hq => e q (by simp [hq]))]
    omega
theorem area_rev (ps : List P3) (l : List (Nat × Nat × Nat)) (f : Nat) (h : Srt ps.length f l) : arAll (revAll ps l) l = wrap64 (0 - arAll ps l) := by
  rw [arAll_eq, arAll_eq]
  refine wrap_of_cg ?_
  have e : areaS (revAll ps l) l = - areaS ps l := sum_map_neg l _ _ (fun p hp => by rw [seg_revAll ps l f h p hp (srt_mem _ l f h p hp), area1_turn])
  rw [e]
  have := (Cg.refl 0).sub (Cg.wrap (areaS ps l)).symm
  simpa using this
theorem seg_map {α β : Type} (g : α → β) (ps : List α) (f e : Nat) : seg (ps.map g) f e = (seg ps f e).map g := by simp [seg, List.map_take, List.map_drop]
theorem gx_mv (x y : Int) (c : List P3) (i : Nat) (h : i < c.length) : Cg (gx (c.map (mv x y)) i) (gx c i + x) ∧ Cg (gy (c.map (mv x y)) i) (gy c i + y) := by
  unfold gx gy
  simp only [List.getD_eq_getElem?_getD, List.getElem?_map, List.getElem?_eq_getElem h, Option.map_some, Option.getD_some]
  exact ⟨Cg.wrap _, Cg.wrap _⟩
theorem mul4 (a b c d x y : Int) : (a + x) * (b + y) - (c + x) * (d + y) = (a * b - c * d) + (x * (b - d) + y * (a - c)) := by
  rw [Int.add_mul, Int.mul_add, Int.mul_add, Int.add_mul, Int.mul_add, Int.mul_add, Int.mul_sub, Int.mul_sub, Int.mul_comm y a, Int.mul_comm y c]
  omega
theorem area1_mv (x y : Int) (c : List P3) : Cg (area1 (c.map (mv x y))) (area1 c) := by
  by_cases h0 : c.length = 0
  · have : c = [] := List.eq_nil_of_length_eq_zero h0
    subst this
    exact Cg.refl _
  have hpos : 0 < c.length := by omega
  unfold area1
  rw [List.length_map]
  have h1 : Cg (sumN (term (c.map (mv x y))) c.length) (sumN (fun i => term c i + (x * (gy c ((i + 1) % c.length) - gy c i) + y * (gx c i - gx c ((i + 1) % c.length)))) c.length) := sumN_cg (fun i hi => by
    have h2 : (i + 1) % c.length < c.length := Nat.mod_lt _ hpos
    unfold term
    rw [List.length_map]
    have a1 := gx_mv x y c i hi
    have a2 := gx_mv x y c _ h2
    have := (a1.1.mul a2.2).sub (a2.1.mul a1.2)
    rwa [mul4] at this)
  have h3 : sumN (fun i => term c i + (x * (gy c ((i + 1) % c.length) - gy c i) + y * (gx c i - gx c ((i + 1) % c.length)))) c.length = sumN (term c) c.length := by
    rw [sumN_add, sumN_add, sumN_mul, sumN_mul, sumN_round _ _ hpos]
    have : sumN (fun i => gx c i - gx c ((i + 1) % c.length)) c.length = 0 := by
      have h4 := sumN_round (gx c) c.length hpos
      have h5 := sumN_neg (fun i => gx c ((i + 1) % c.length) - gx c i) c.length
      rw [h4] at h5
      rw [← Int.neg_zero, ← h5]
      exact sumN_congr (fun i _ => by omega)
    rw [this]
    omega
  rw [h3] at h1
  exact h1
theorem sum_map_cg {α : Type} (l : List α) (g h : α → Int) (e : ∀ p ∈ l, Cg (g p) (h p)) : Cg (l.map g).sum (l.map h).sum := by
  induction l with
  | nil => exact Cg.refl _
  | cons p l ih =>
    simp only [List.map_cons, List.sum_cons]
    exact (e p (by simp)).add (ih (fun q hq => e q (by simp [hq])))
theorem area_mv (x y : Int) (ps : List P3) (l : List (Nat × Nat × Nat)) : arAll (ps.map (mv x y)) l = arAll ps l := by
  rw [arAll_eq, arAll_eq]
  exact wrap_of_cg (sum_map_cg l _ _ (fun p _ => by rw [seg_map]; exact area1_mv x y _))
theorem mv_back (x y : Int) (ps : List P3) (h : ∀ p ∈ ps, wrap64 p.1 = p.1 ∧ wrap64 p.2.1 = p.2.1) : (ps.map (mv x y)).map (mv (wrap64 (0 - x)) (wrap64 (0 - y))) = ps := by
  rw [List.map_map]
  conv => rhs; rw [← List.map_id ps]
  refine List.map_congr_left (fun p hp => ?_)
  have key : ∀ z d : Int, wrap64 z = z → wrap64 (wrap64 (z + d) + wrap64 (0 - d)) = z := fun z d hz => by
    have h1 : Cg (wrap64 (z + d) + wrap64 (0 - d)) z := by
      have := (Cg.wrap (z + d)).add (Cg.wrap (0 - d))
      rwa [show z + d + (0 - d) = z by omega] at this
    rw [wrap_of_cg h1, hz]
  obtain ⟨h1, h2⟩ := h p hp
  simp only [Function.comp, mv, id]
  rw [key _ _ h1, key _ _ h2]
theorem right_rev (ps : List P3) (es : List Int) (l : List (Nat × Nat × Nat)) (f : Nat) (h : Srt ps.length f l) : rightB (revAll ps l) es = rightB ps es := by
  have hmem : ∀ (qs : List P3), Srt qs.length f l → ∀ p ∈ revAll qs l, p ∈ qs := fun qs hq p hp => by
    obtain ⟨t, ht⟩ := List.getElem?_of_mem hp
    rw [revAll_get l qs f t hq] at ht
    exact List.mem_of_getElem? ht
  have hall : ∀ g : P3 → Bool, (revAll ps l).all g = ps.all g := fun g => by
    rw [Bool.eq_iff_iff, List.all_eq_true, List.all_eq_true]
    constructor
    · intro hh p hp
      rw [← revAll_revAll ps l f h] at hp
      exact hh p (hmem _ (by rw [revAll_length]; exact h) p hp)
    · intro hh p hp
      exact hh p (hmem ps h p hp)
  unfold rightB
  rw [revAll_length, hall]
end Go.Proofs.Ytfpdbdbgemolgaa
