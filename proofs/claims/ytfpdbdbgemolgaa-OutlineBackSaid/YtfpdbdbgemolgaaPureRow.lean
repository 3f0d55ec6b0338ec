/- Plain facts: rings and rows of points that are moved; what a ring and a row lie in. -/
import Derived.Test.YtfpdbdbgemolgaaLinesWalk
import Derived.Test.YtfpdbdbgemolgaaPureBox
import Derived.Test.YtfpdbdbgemolgaaGrid
namespace Go.Proofs.Ytfpdbdbgemolgaa
open Go.RowKit

theorem mixP_lit (s : Nat) (h1 : 1 ≤ s) (h8 : s ≤ 8) : ∃ p q r : Int, p + q + r = 64 ∧ 0 ≤ p ∧ 0 ≤ q ∧ 0 ≤ r ∧ ∀ a c b : Int, (-2000000 ≤ a ∧ a ≤ 2000000) → (-2000000 ≤ c ∧ c ≤ 2000000) → (-2000000 ≤ b ∧ b ≤ 2000000) → mixP s a c b = (p * a + q * c + r * b + 32) / 64 := by
  rcases (by omega : s = 1 ∨ s = 2 ∨ s = 3 ∨ s = 4 ∨ s = 5 ∨ s = 6 ∨ s = 7 ∨ s = 8) with rfl | rfl | rfl | rfl | rfl | rfl | rfl | rfl
  · refine ⟨49, 14, 1, by decide, by decide, by decide, by decide, fun a c b ha hc hb => ?_⟩
    unfold mixP
    rw [show wrap64 ((8 - ((1 : Nat) : Int)) * (8 - ((1 : Nat) : Int))) = 49 by decide +kernel, show wrap64 (2 * ((1 : Nat) : Int) * (8 - ((1 : Nat) : Int))) = 14 by decide +kernel, show wrap64 (((1 : Nat) : Int) * ((1 : Nat) : Int)) = 1 by decide +kernel]
    unfold wrap64
    omega
  · refine ⟨36, 24, 4, by decide, by decide, by decide, by decide, fun a c b ha hc hb => ?_⟩
    unfold mixP
    rw [show wrap64 ((8 - ((2 : Nat) : Int)) * (8 - ((2 : Nat) : Int))) = 36 by decide +kernel, show wrap64 (2 * ((2 : Nat) : Int) * (8 - ((2 : Nat) : Int))) = 24 by decide +kernel, show wrap64 (((2 : Nat) : Int) * ((2 : Nat) : Int)) = 4 by decide +kernel]
    unfold wrap64
    omega
  · refine ⟨25, 30, 9, by decide, by decide, by decide, by decide, fun a c b ha hc hb => ?_⟩
    unfold mixP
    rw [show wrap64 ((8 - ((3 : Nat) : Int)) * (8 - ((3 : Nat) : Int))) = 25 by decide +kernel, show wrap64 (2 * ((3 : Nat) : Int) * (8 - ((3 : Nat) : Int))) = 30 by decide +kernel, show wrap64 (((3 : Nat) : Int) * ((3 : Nat) : Int)) = 9 by decide +kernel]
    unfold wrap64
    omega
  · refine ⟨16, 32, 16, by decide, by decide, by decide, by decide, fun a c b ha hc hb => ?_⟩
    unfold mixP
    rw [show wrap64 ((8 - ((4 : Nat) : Int)) * (8 - ((4 : Nat) : Int))) = 16 by decide +kernel, show wrap64 (2 * ((4 : Nat) : Int) * (8 - ((4 : Nat) : Int))) = 32 by decide +kernel, show wrap64 (((4 : Nat) : Int) * ((4 : Nat) : Int)) = 16 by decide +kernel]
    unfold wrap64
    omega
  · refine ⟨9, 30, 25, by decide, by decide, by decide, by decide, fun a c b ha hc hb => ?_⟩
    unfold mixP
    rw [show wrap64 ((8 - ((5 : Nat) : Int)) * (8 - ((5 : Nat) : Int))) = 9 by decide +kernel, show wrap64 (2 * ((5 : Nat) : Int) * (8 - ((5 : Nat) : Int))) = 30 by decide +kernel, show wrap64 (((5 : Nat) : Int) * ((5 : Nat) : Int)) = 25 by decide +kernel]
    unfold wrap64
    omega
  · refine ⟨4, 24, 36, by decide, by decide, by decide, by decide, fun a c b ha hc hb => ?_⟩
    unfold mixP
    rw [show wrap64 ((8 - ((6 : Nat) : Int)) * (8 - ((6 : Nat) : Int))) = 4 by decide +kernel, show wrap64 (2 * ((6 : Nat) : Int) * (8 - ((6 : Nat) : Int))) = 24 by decide +kernel, show wrap64 (((6 : Nat) : Int) * ((6 : Nat) : Int)) = 36 by decide +kernel]
    unfold wrap64
    omega
  · refine ⟨1, 14, 49, by decide, by decide, by decide, by decide, fun a c b ha hc hb => ?_⟩
    unfold mixP
    rw [show wrap64 ((8 - ((7 : Nat) : Int)) * (8 - ((7 : Nat) : Int))) = 1 by decide +kernel, show wrap64 (2 * ((7 : Nat) : Int) * (8 - ((7 : Nat) : Int))) = 14 by decide +kernel, show wrap64 (((7 : Nat) : Int) * ((7 : Nat) : Int)) = 49 by decide +kernel]
    unfold wrap64
    omega
  · refine ⟨0, 0, 64, by decide, by decide, by decide, by decide, fun a c b ha hc hb => ?_⟩
    unfold mixP
    rw [show wrap64 ((8 - ((8 : Nat) : Int)) * (8 - ((8 : Nat) : Int))) = 0 by decide +kernel, show wrap64 (2 * ((8 : Nat) : Int) * (8 - ((8 : Nat) : Int))) = 0 by decide +kernel, show wrap64 (((8 : Nat) : Int) * ((8 : Nat) : Int)) = 64 by decide +kernel]
    unfold wrap64
    omega
theorem mul3 (p q r a c b x : Int) (h : p + q + r = 64) : p * (a + x) + q * (c + x) + r * (b + x) = p * a + q * c + r * b + 64 * x := by
  rw [← h, Int.mul_add, Int.mul_add, Int.mul_add, Int.add_mul, Int.add_mul]
  omega
def bd (M : Int) (z : Int) : Prop := -M ≤ z ∧ z ≤ M
theorem mixP_shift (s : Nat) (h1 : 1 ≤ s) (h8 : s ≤ 8) (a c b x : Int) (ha : bd 16384 a) (hc : bd 16384 c) (hb : bd 16384 b) (hx : bd 1000000 x) : mixP s (a + x) (c + x) (b + x) = mixP s a c b + x := by
  obtain ⟨p, q, r, h, _, _, _, hm⟩ := mixP_lit s h1 h8
  unfold bd at ha hc hb hx
  rw [hm (a + x) (c + x) (b + x) (by omega) (by omega) (by omega), hm a c b (by omega) (by omega) (by omega), mul3 p q r a c b x h]
  omega
theorem mul_le3 (p q r a c b lo hi : Int) (h : p + q + r = 64) (hp : 0 ≤ p) (hq : 0 ≤ q) (hr : 0 ≤ r) (ha : lo ≤ a ∧ a ≤ hi) (hc : lo ≤ c ∧ c ≤ hi) (hb : lo ≤ b ∧ b ≤ hi) :
    64 * lo ≤ p * a + q * c + r * b ∧ p * a + q * c + r * b ≤ 64 * hi := by
  have e : ∀ z : Int, 64 * z = p * z + q * z + r * z := fun z => by rw [← h, Int.add_mul, Int.add_mul]
  rw [e lo, e hi]
  have := Int.mul_le_mul_of_nonneg_left ha.1 hp
  have := Int.mul_le_mul_of_nonneg_left ha.2 hp
  have := Int.mul_le_mul_of_nonneg_left hc.1 hq
  have := Int.mul_le_mul_of_nonneg_left hc.2 hq
  have := Int.mul_le_mul_of_nonneg_left hb.1 hr
  have := Int.mul_le_mul_of_nonneg_left hb.2 hr
  omega
theorem mixP_in (s : Nat) (h1 : 1 ≤ s) (h8 : s ≤ 8) (a c b lo hi : Int) (hlo : -16384 ≤ lo) (hhi : hi ≤ 16384) (ha : lo ≤ a ∧ a ≤ hi) (hc : lo ≤ c ∧ c ≤ hi) (hb : lo ≤ b ∧ b ≤ hi) : lo ≤ mixP s a c b ∧ mixP s a c b ≤ hi := by
  obtain ⟨p, q, r, h, hp, hq, hr, hm⟩ := mixP_lit s h1 h8
  rw [hm a c b (by omega) (by omega) (by omega)]
  have := mul_le3 p q r a c b lo hi h hp hq hr ha hc hb
  omega
theorem btw_in (a b : P2) (l h : P2) (hl : -16384 ≤ l.1 ∧ -16384 ≤ l.2) (hh : h.1 ≤ 16384 ∧ h.2 ≤ 16384) (ha : (l.1 ≤ a.1 ∧ a.1 ≤ h.1) ∧ (l.2 ≤ a.2 ∧ a.2 ≤ h.2)) (hb : (l.1 ≤ b.1 ∧ b.1 ≤ h.1) ∧ (l.2 ≤ b.2 ∧ b.2 ≤ h.2)) :
    (l.1 ≤ (btw a b).1 ∧ (btw a b).1 ≤ h.1) ∧ (l.2 ≤ (btw a b).2 ∧ (btw a b).2 ≤ h.2) := by
  unfold btw wrap64
  dsimp only
  omega

/-- moved, where nothing goes round -/
def tr (x y : Int) (p : P3) : P3 := (p.1 + x, p.2.1 + y, p.2.2)
def tr2 (x y : Int) (p : P2) : P2 := (p.1 + x, p.2 + y)
def Bd (p : P3) : Prop := bd 16384 p.1 ∧ bd 16384 p.2.1
theorem mv_tr (x y : Int) (hx : bd 1000000 x) (hy : bd 1000000 y) (ps : List P3) (h : ∀ p ∈ ps, Bd p) : ps.map (mv x y) = ps.map (tr x y) := by
  refine List.map_congr_left (fun p hp => ?_)
  obtain ⟨h1, h2⟩ := h p hp
  unfold bd at h1 h2 hx hy
  unfold mv tr
  rw [IntWalk.wrap64_in _ ⟨by omega, by omega⟩, IntWalk.wrap64_in _ ⟨by omega, by omega⟩]
theorem tr_zero (ps : List P3) : ps.map (tr 0 0) = ps := by
  conv => rhs; rw [← List.map_id ps]
  exact List.map_congr_left (fun p _ => by simp [tr])
theorem btw_tr (x y : Int) (hx : bd 1000000 x) (hy : bd 1000000 y) (p q : P3) (hp : Bd p) (hq : Bd q) : btw (at2 (tr x y p)) (at2 (tr x y q)) = tr2 x y (btw (at2 p) (at2 q)) := by
  obtain ⟨h1, h2⟩ := hp
  obtain ⟨h3, h4⟩ := hq
  unfold bd at h1 h2 h3 h4 hx hy
  unfold btw at2 tr tr2 wrap64
  simp only [Prod.mk.injEq]
  omega
theorem ringAt_tr (x y : Int) (hx : bd 1000000 x) (hy : bd 1000000 y) (ct : List P3) (h : ∀ p ∈ ct, Bd p) (i : Nat) : ringAt (ct.map (tr x y)) i = (ringAt ct i).map (tr x y) := by
  unfold ringAt
  simp only [List.getElem?_map, List.length_map]
  cases h1 : ct[i]? with
  | none => simp
  | some p =>
    cases h2 : ct[(i + 1) % ct.length]? with
    | none => simp
    | some q =>
      simp only [Option.map_some]
      have hp := h p (List.mem_of_getElem? h1)
      have hq := h q (List.mem_of_getElem? h2)
      rw [btw_tr x y hx hy p q hp hq]
      by_cases hc : p.2.2 = false ∧ q.2.2 = false
      · rw [if_pos (show (tr x y p).2.2 = false ∧ (tr x y q).2.2 = false from hc), if_pos hc]
        rfl
      · rw [if_neg (show ¬ ((tr x y p).2.2 = false ∧ (tr x y q).2.2 = false) from hc), if_neg hc]
        rfl
theorem ringTo_tr (x y : Int) (hx : bd 1000000 x) (hy : bd 1000000 y) (ct : List P3) (h : ∀ p ∈ ct, Bd p) (k : Nat) : ringTo (ct.map (tr x y)) k = (ringTo ct k).map (tr x y) := by
  induction k with
  | zero => rfl
  | succ k ih => rw [ringTo_succ, ringTo_succ, ih, ringAt_tr x y hx hy ct h, List.map_append]
theorem firstTo_tr (x y : Int) (hx : bd 1000000 x) (hy : bd 1000000 y) (ct : List P3) (h : ∀ p ∈ ct, Bd p) (k : Nat) : firstTo (ct.map (tr x y)) k = firstTo ct k := by
  induction k with
  | zero => rfl
  | succ k ih =>
    rw [firstTo, firstTo, ih, ringTo_tr x y hx hy ct h, List.length_map, List.getElem?_map, Option.map_map]
    rfl
theorem ringL_tr (x y : Int) (hx : bd 1000000 x) (hy : bd 1000000 y) (ct : List P3) (h : ∀ p ∈ ct, Bd p) : ringL (ct.map (tr x y)) = (ringL ct).map (tr x y) := by
  have hs : ringS (ct.map (tr x y)) = ringS ct := by
    unfold ringS
    rw [List.length_map, firstTo_tr x y hx hy ct h, ringTo_tr x y hx hy ct h, List.length_map]
  unfold ringL
  rw [hs, List.length_map, ringTo_tr x y hx hy ct h, List.map_append, List.map_drop, List.map_take]
/-- what holds of points and of those between holds of the ring -/
theorem ringTo_all (P : P3 → Prop) (ct : List P3) (h : ∀ p ∈ ct, P p) (hb : ∀ p ∈ ct, ∀ q ∈ ct, P ((btw (at2 p) (at2 q)).1, (btw (at2 p) (at2 q)).2, true)) (k : Nat) : ∀ p ∈ ringTo ct k, P p := by
  intro p hp
  simp only [ringTo, List.mem_flatMap, List.mem_range] at hp
  obtain ⟨i, _, hi⟩ := hp
  unfold ringAt at hi
  split at hi
  · rename_i a b ha hb'
    split at hi
    · simp only [List.mem_cons, List.not_mem_nil, or_false] at hi
      rcases hi with rfl | rfl
      · exact h _ (List.mem_of_getElem? ha)
      · exact hb _ (List.mem_of_getElem? ha) _ (List.mem_of_getElem? hb')
    · simp only [List.mem_cons, List.not_mem_nil, or_false] at hi
      subst hi
      exact h _ (List.mem_of_getElem? ha)
  · simp at hi
theorem ringL_all (P : P3 → Prop) (ct : List P3) (h : ∀ p ∈ ct, P p) (hb : ∀ p ∈ ct, ∀ q ∈ ct, P ((btw (at2 p) (at2 q)).1, (btw (at2 p) (at2 q)).2, true)) : ∀ p ∈ ringL ct, P p := by
  intro p hp
  unfold ringL at hp
  rcases List.mem_append.1 hp with hp | hp
  · exact ringTo_all P ct h hb _ p (List.mem_of_mem_drop hp)
  · exact ringTo_all P ct h hb _ p (List.mem_of_mem_take hp)
theorem ringL_bd (ct : List P3) (h : ∀ p ∈ ct, Bd p) : ∀ p ∈ ringL ct, Bd p := by
  refine ringL_all Bd ct h (fun p hp q hq => ?_)
  obtain ⟨h1, h2⟩ := h p hp
  obtain ⟨h3, h4⟩ := h q hq
  unfold bd at h1 h2 h3 h4
  unfold Bd bd
  exact btw_in (at2 p) (at2 q) (-16384, -16384) (16384, 16384) (by decide) (by decide) ⟨h1, h2⟩ ⟨h3, h4⟩
theorem crv_tr (x y : Int) (hx : bd 1000000 x) (hy : bd 1000000 y) (a c b : P3) (ha : Bd a) (hc : Bd c) (hb : Bd b) (s : Nat) (h1 : 1 ≤ s) (h8 : s ≤ 8) : crv (at2 (tr x y a)) (at2 (tr x y c)) (at2 (tr x y b)) s = tr2 x y (crv (at2 a) (at2 c) (at2 b) s) := by
  unfold crv tr2
  simp only [Prod.mk.injEq]
  exact ⟨mixP_shift s h1 h8 _ _ _ x ha.1 hc.1 hb.1 hx, mixP_shift s h1 h8 _ _ _ y ha.2 hc.2 hb.2 hy⟩
theorem rowFrom_tr (x y : Int) (hx : bd 1000000 x) (hy : bd 1000000 y) (rg : List P3) (h : ∀ p ∈ rg, Bd p) : ∀ k i, rowFrom (rg.map (tr x y)) k i = (rowFrom rg k i).map (tr2 x y) := by
  intro k
  induction k with
  | zero => intro i; rfl
  | succ k ih =>
    intro i
    rw [rowFrom, rowFrom, List.length_map]
    by_cases hi : i < rg.length
    · rw [if_pos hi, if_pos hi]
      simp only [List.getElem?_map]
      cases h1 : rg[i]? with
      | none => simp
      | some a =>
        cases h2 : rg[(i + 1) % rg.length]? with
        | none => simp
        | some nx =>
          cases h3 : rg[(i + 2) % rg.length]? with
          | none => simp
          | some b =>
            simp only [Option.map_some]
            have ha := h a (List.mem_of_getElem? h1)
            have hn := h nx (List.mem_of_getElem? h2)
            have hb := h b (List.mem_of_getElem? h3)
            by_cases hon : nx.2.2 = true
            · rw [if_pos (show (tr x y nx).2.2 = true from hon), if_pos hon, ih]
              rfl
            · rw [if_neg (show ¬ (tr x y nx).2.2 = true from hon), if_neg hon, ih, List.map_append, List.map_map]
              congr 1
              refine List.map_congr_left (fun s hs => ?_)
              exact crv_tr x y hx hy a nx b ha hn hb (s + 1) (by omega) (by have := List.mem_range.1 hs; omega)
    · rw [if_neg hi, if_neg hi]
      rfl
theorem rowL_tr (x y : Int) (hx : bd 1000000 x) (hy : bd 1000000 y) (rg : List P3) (h : ∀ p ∈ rg, Bd p) : rowL (rg.map (tr x y)) = (rowL rg).map (tr2 x y) := by
  unfold rowL rowT
  rw [List.getElem?_map, List.length_map, rowFrom_tr x y hx hy rg h]
  cases rg[0]? with
  | none => rfl
  | some p =>
    simp only [Option.map_some]
    rw [List.map_dropLast, List.map_append]
    rfl
theorem seg_mem {α : Type} (ps : List α) (f e : Nat) (p : α) (h : p ∈ seg ps f e) : p ∈ ps := List.mem_of_mem_drop (List.mem_of_mem_take h)
theorem linesL_tr (x y : Int) (hx : bd 1000000 x) (hy : bd 1000000 y) (ps : List P3) (h : ∀ p ∈ ps, Bd p) (l : List (Nat × Nat × Nat)) : linesL (ps.map (tr x y)) l = (linesL ps l).map (fun r => r.map (tr2 x y)) := by
  unfold linesL
  rw [List.map_map]
  refine List.map_congr_left (fun p _ => ?_)
  simp only [Function.comp]
  rw [seg_map, ringL_tr x y hx hy _ (fun q hq => h q (seg_mem _ _ _ _ hq)), rowL_tr x y hx hy _ (ringL_bd _ (fun q hq => h q (seg_mem _ _ _ _ hq)))]
theorem spz_grid (x y : Int) (ps : List P3) : spz (ps.map (gpt x y)) (ps.map gon) = ps.map (mv x y) := by
  unfold spz
  induction ps with
  | nil => rfl
  | cons p ps ih =>
    simp only [List.map_cons, List.zipWith_cons_cons]
    rw [ih]
    rfl
/-- of a right outline each end ends a contour -/
theorem endsR_pcs (n : Nat) : ∀ (es : List Int) (z : Int) (k f : Nat), (f : Int) = z + 1 → endsR n z es = true → (pcsF n k f es).length = es.length := by
  intro es
  induction es with
  | nil => intro z k f _ _; rfl
  | cons e es ih =>
    intro z k f hf h
    simp only [endsR, Bool.and_eq_true, decide_eq_true_eq] at h
    obtain ⟨⟨h1, h2⟩, h3⟩ := h
    rw [pcsF, if_pos (by omega), List.length_cons, List.length_cons, ih e (k + 1) (e.toNat + 1) (by omega) h3]
theorem rowFrom_all (P : P2 → Prop) (rg : List P3) (h : ∀ p ∈ rg, P (at2 p)) (hc : ∀ a ∈ rg, ∀ c ∈ rg, ∀ b ∈ rg, ∀ s, 1 ≤ s → s ≤ 8 → P (crv (at2 a) (at2 c) (at2 b) s)) : ∀ k i, ∀ q ∈ rowFrom rg k i, P q := by
  intro k
  induction k with
  | zero => intro i q hq; simp [rowFrom] at hq
  | succ k ih =>
    intro i q hq
    rw [rowFrom] at hq
    split at hq
    · split at hq
      · rename_i a nx b h1 h2 h3
        split at hq
        · rcases List.mem_append.1 hq with hq | hq
          · simp only [List.mem_cons, List.not_mem_nil, or_false] at hq
            subst hq
            exact h _ (List.mem_of_getElem? h2)
          · exact ih _ q hq
        · rcases List.mem_append.1 hq with hq | hq
          · simp only [List.mem_map, List.mem_range] at hq
            obtain ⟨s, hs, rfl⟩ := hq
            exact hc a (List.mem_of_getElem? h1) nx (List.mem_of_getElem? h2) b (List.mem_of_getElem? h3) (s + 1) (by omega) (by omega)
          · exact ih _ q hq
      · simp at hq
    · simp at hq
theorem rowL_all (P : P2 → Prop) (rg : List P3) (h : ∀ p ∈ rg, P (at2 p)) (hc : ∀ a ∈ rg, ∀ c ∈ rg, ∀ b ∈ rg, ∀ s, 1 ≤ s → s ≤ 8 → P (crv (at2 a) (at2 c) (at2 b) s)) : ∀ q ∈ rowL rg, P q := by
  intro q hq
  have hq : q ∈ rowT rg := (List.dropLast_sublist _).subset hq
  unfold rowT at hq
  split at hq
  · rename_i p hp
    rcases List.mem_append.1 hq with hq | hq
    · simp only [List.mem_cons, List.not_mem_nil, or_false] at hq
      subst hq
      exact h _ (List.mem_of_getElem? hp)
    · exact rowFrom_all P rg h hc _ _ q hq
  · simp at hq
/-- a contour's lines lie in any box that holds its points -/
theorem lines_in (ct : List P3) (lo hi : P2) (hl : -16384 ≤ lo.1 ∧ -16384 ≤ lo.2) (hh : hi.1 ≤ 16384 ∧ hi.2 ≤ 16384) (h : ∀ p ∈ ct, (lo.1 ≤ p.1 ∧ p.1 ≤ hi.1) ∧ (lo.2 ≤ p.2.1 ∧ p.2.1 ≤ hi.2)) :
    ∀ q ∈ rowL (ringL ct), (lo.1 ≤ q.1 ∧ q.1 ≤ hi.1) ∧ (lo.2 ≤ q.2 ∧ q.2 ≤ hi.2) := by
  have hr : ∀ p ∈ ringL ct, (lo.1 ≤ p.1 ∧ p.1 ≤ hi.1) ∧ (lo.2 ≤ p.2.1 ∧ p.2.1 ≤ hi.2) := ringL_all _ ct h (fun p hp q hq => btw_in (at2 p) (at2 q) lo hi hl hh (h p hp) (h q hq))
  refine rowL_all _ _ (fun p hp => hr p hp) (fun a ha c hc b hb s h1 h8 => ?_)
  exact ⟨mixP_in s h1 h8 _ _ _ lo.1 hi.1 hl.1 hh.1 (hr a ha).1 (hr c hc).1 (hr b hb).1, mixP_in s h1 h8 _ _ _ lo.2 hi.2 hl.2 hh.2 (hr a ha).2 (hr c hc).2 (hr b hb).2⟩
end Go.Proofs.Ytfpdbdbgemolgaa
