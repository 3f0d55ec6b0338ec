/- Plain facts: how many lines a contour has; its ring begins on the curve, and has no two points off that follow one another. -/
import Derived.Test.YtfpdbdbgemolgaaPureRow
namespace Go.Proofs.Ytfpdbdbgemolgaa
open Go.RowKit

def hd (l : List P3) (q : P3) : P3 := match l with
  | [] => q
  | p :: _ => p
/-- what a point adds to the lines, the next one known -/
def wt (p q : P3) : Nat := if p.2.2 = false then 8 else if q.2.2 = true then 1 else 0
def wsum : List P3 → P3 → Nat
  | [], _ => 0
  | p :: l, q => wt p (hd l q) + wsum l q
/-- no two that follow one another are off -/
def noo : List P3 → P3 → Prop
  | [], _ => True
  | p :: l, q => (p.2.2 = true ∨ (hd l q).2.2 = true) ∧ noo l q
theorem hd_append (a b : List P3) (q : P3) : hd (a ++ b) q = hd a (hd b q) := by cases a <;> rfl
theorem wsum_append (a b : List P3) (q : P3) : wsum (a ++ b) q = wsum a (hd b q) + wsum b q := by
  induction a with
  | nil => simp [wsum]
  | cons p a ih => simp only [List.cons_append, wsum, ih, hd_append]; omega
theorem noo_append (a b : List P3) (q : P3) : noo (a ++ b) q ↔ noo a (hd b q) ∧ noo b q := by
  induction a with
  | nil => simp [noo]
  | cons p a ih => simp only [List.cons_append, noo, ih, hd_append, and_assoc]
theorem wt_on {p q q' : P3} (h : q.2.2 = q'.2.2) : wt p q = wt p q' := by unfold wt; rw [h]
theorem hd_on {l : List P3} {q q' : P3} (h : q.2.2 = q'.2.2) : (hd l q).2.2 = (hd l q').2.2 := by cases l <;> simp [hd, h]
theorem wsum_on (l : List P3) {q q' : P3} (h : q.2.2 = q'.2.2) : wsum l q = wsum l q' := by
  induction l with
  | nil => rfl
  | cons p l ih => rw [wsum, wsum, ih, wt_on (hd_on h)]
theorem noo_on (l : List P3) {q q' : P3} (h : q.2.2 = q'.2.2) : noo l q → noo l q' := by
  induction l with
  | nil => exact id
  | cons p l ih => exact fun ⟨h1, h2⟩ => ⟨by rw [← hd_on h]; exact h1, ih h2⟩

theorem getE (l : List P3) (i : Nat) (h : i < l.length) : ∃ p, l[i]? = some p := ⟨_, List.getElem?_eq_getElem h⟩
/-- a row's length, from a point on the curve on -/
theorem rowFrom_count (rg : List P3) (N : Nat) (hN : rg.length = N) (q : P3) (hq : rg[0]? = some q) (hon : q.2.2 = true) : ∀ k i, i ≤ N → N ≤ i + k → (∀ p, rg[i]? = some p → p.2.2 = true) → noo (rg.drop i) q → (rowFrom rg k i).length = wsum (rg.drop i) q := by
  intro k
  induction k with
  | zero =>
    intro i h1 h2 _ _
    rw [List.drop_eq_nil_of_le (by omega)]
    rfl
  | succ k ih =>
    intro i h1 h2 hi hni
    rw [rowFrom]
    by_cases hlt : i < rg.length
    · rw [if_pos hlt]
      obtain ⟨a, ha⟩ := getE rg i hlt
      have hd1 : rg.drop i = a :: rg.drop (i + 1) := by
        obtain ⟨g1, g2⟩ := List.getElem?_eq_some_iff.1 ha
        rw [List.drop_eq_getElem_cons g1, g2]
      have haon := hi a ha
      obtain ⟨nx, hnx⟩ := getE rg ((i + 1) % rg.length) (Nat.mod_lt _ (by omega))
      obtain ⟨bh, hbh⟩ := getE rg ((i + 2) % rg.length) (Nat.mod_lt _ (by omega))
      have hhd : (hd (rg.drop (i + 1)) q) = nx := by
        by_cases h3 : i + 1 < rg.length
        · rw [Nat.mod_eq_of_lt h3] at hnx
          obtain ⟨g1, g2⟩ := List.getElem?_eq_some_iff.1 hnx
          rw [List.drop_eq_getElem_cons g1, g2]
          rfl
        · have h4 : i + 1 = rg.length := by omega
          rw [h4, Nat.mod_self, hq] at hnx
          cases hnx
          rw [h4, List.drop_length]
          rfl
      rw [hd1, noo] at hni
      simp only [ha, hnx, hbh]
      rw [hd1, wsum, hhd]
      by_cases hnon : nx.2.2 = true
      · rw [if_pos hnon, List.length_append, ih (i + 1) (by omega) (by omega) (fun p hp => ?_) hni.2]
        · unfold wt
          rw [if_neg (by simp [haon]), if_pos hnon]
          simp
        · have : (i + 1) % rg.length = i + 1 := Nat.mod_eq_of_lt (List.getElem?_eq_some_iff.1 hp).1
          rw [this, hp] at hnx
          cases hnx
          exact hnon
      · have hnf : nx.2.2 = false := by simpa using hnon
        have h3 : i + 1 < rg.length := by
          by_cases h3 : i + 1 < rg.length
          · exact h3
          · have h4 : i + 1 = rg.length := by omega
            rw [h4, Nat.mod_self, hq] at hnx
            cases hnx
            rw [hon] at hnf
            cases hnf
        have hd2 : rg.drop (i + 1) = nx :: rg.drop (i + 2) := by
          rw [Nat.mod_eq_of_lt h3] at hnx
          obtain ⟨g1, g2⟩ := List.getElem?_eq_some_iff.1 hnx
          rw [List.drop_eq_getElem_cons g1, g2]
        have hni2 := hni.2
        rw [hd2, noo] at hni2
        rw [if_neg hnon, List.length_append, ih (i + 2) (by omega) (by omega) (fun p hp => ?_) hni2.2, hd2, wsum]
        · unfold wt
          rw [if_neg (by simp [haon]), if_neg hnon, if_pos hnf]
          simp
        · rcases hni2.1 with h5 | h5
          · rw [hnf] at h5
            cases h5
          · obtain ⟨g1, g2⟩ := List.getElem?_eq_some_iff.1 hp
            rw [List.drop_eq_getElem_cons g1, g2] at h5
            exact h5
    · rw [if_neg hlt, List.drop_eq_nil_of_le (by omega)]
      rfl
theorem rowL_count (rg : List P3) (q : P3) (hq : rg[0]? = some q) (hon : q.2.2 = true) (hno : noo rg q) : (rowL rg).length = wsum rg q := by
  unfold rowL rowT
  rw [hq]
  have h := rowFrom_count rg rg.length rfl q hq hon rg.length 0 (by omega) (by omega) (fun p hp => by rw [hq] at hp; cases hp; exact hon) (by simpa using hno)
  simp only [List.length_dropLast, List.length_append, List.length_cons, List.length_nil]
  rw [h]
  simp

/-- what the statement counts -/
def cntTo (r : List P3) : Nat → Nat
  | 0 => 0
  | k + 1 => cntTo r k + (match r[k]?, r[(k + 1) % r.length]? with
    | some p, some q => wt p q
    | _, _ => 0)
theorem ringAt_facts (r : List P3) (k : Nat) (p q : P3) (hp : r[k]? = some p) (hq : r[(k + 1) % r.length]? = some q) : (∀ z, hd (ringAt r k) z = p) ∧ wsum (ringAt r k) q = wt p q ∧ noo (ringAt r k) q := by
  unfold ringAt
  simp only [hp, hq]
  by_cases h : p.2.2 = false ∧ q.2.2 = false
  · rw [if_pos h]
    refine ⟨fun z => rfl, ?_, ?_⟩
    · simp [wsum, hd, wt, h.1, h.2]
    · simp [noo, hd]
  · rw [if_neg h]
    refine ⟨fun z => rfl, by simp [wsum, hd], ?_⟩
    simp only [noo, hd, and_true]
    cases hp2 : p.2.2
    · right
      cases hq2 : q.2.2
      · exact absurd ⟨hp2, hq2⟩ h
      · rfl
    · exact .inl rfl
theorem ringTo_count (r : List P3) : ∀ k, k ≤ r.length → 0 < r.length → ∀ q, r[k % r.length]? = some q → wsum (ringTo r k) q = cntTo r k ∧ noo (ringTo r k) q := by
  intro k
  induction k with
  | zero => intro _ _ q _; exact ⟨rfl, trivial⟩
  | succ k ih =>
    intro hk h0 q hq
    obtain ⟨p, hp⟩ := getE r k (by omega)
    obtain ⟨f1, f2, f3⟩ := ringAt_facts r k p q hp hq
    have hpk : r[k % r.length]? = some p := by rw [Nat.mod_eq_of_lt (by omega)]; exact hp
    obtain ⟨i1, i2⟩ := ih (by omega) h0 p hpk
    rw [ringTo_succ, wsum_append, noo_append, f1]
    refine ⟨?_, i2, f3⟩
    rw [i1, f2, cntTo]
    simp only [hp, hq]
theorem firstTo_on (r : List P3) : ∀ k, k ≤ r.length → (0 ≤ firstTo r k → ∃ p, (ringTo r k)[(firstTo r k).toNat]? = some p ∧ p.2.2 = true) ∧ (firstTo r k < 0 → ∀ i, i < k → ∀ p, r[i]? = some p → p.2.2 = false) := by
  intro k
  induction k with
  | zero => intro _; exact ⟨fun h => by simp [firstTo] at h, fun _ i hi => by omega⟩
  | succ k ih =>
    intro hk
    obtain ⟨i1, i2⟩ := ih (by omega)
    obtain ⟨p, hp⟩ := getE r k (by omega)
    have hb := firstTo_bd r k (by omega)
    rw [firstTo, ringTo_succ]
    by_cases hc : (r[k]?.map (·.2.2)) = some true ∧ firstTo r k < 0
    · rw [if_pos hc]
      refine ⟨fun _ => ?_, fun h => by omega⟩
      have hon : p.2.2 = true := by have := hc.1; rw [hp] at this; simpa using this
      obtain ⟨q, hq⟩ := getE r ((k + 1) % r.length) (Nat.mod_lt _ (by omega))
      refine ⟨p, ?_, hon⟩
      have hpos := ringAt_pos r k (by omega)
      have hh := (ringAt_facts r k p q hp hq).1 p
      rw [List.getElem?_append_right (by simp)]
      cases hra : ringAt r k with
      | nil => rw [hra] at hpos; simp at hpos
      | cons z l =>
        rw [hra] at hh
        simp only [hd] at hh
        simp [hh]
    · rw [if_neg hc]
      refine ⟨fun h => ?_, fun h i hi p' hp' => ?_⟩
      · obtain ⟨p', h1, h2⟩ := i1 h
        exact ⟨p', by rw [List.getElem?_append_left (List.getElem?_eq_some_iff.1 h1).1]; exact h1, h2⟩
      · by_cases hik : i < k
        · exact i2 h i hik p' hp'
        · have : i = k := by omega
          subst this
          rw [hp] at hp'
          cases hp'
          cases hon : p.2.2
          · rfl
          · exact absurd ⟨by rw [hp]; simp [hon], h⟩ hc
theorem ringS_on (r : List P3) (h0 : 0 < r.length) : ringS r < (ringTo r r.length).length ∧ ∃ p, (ringTo r r.length)[ringS r]? = some p ∧ p.2.2 = true := by
  have hb := firstTo_bd r r.length (Nat.le_refl _)
  have hge := ringTo_ge r r.length (Nat.le_refl _)
  obtain ⟨f1, f2⟩ := firstTo_on r r.length (Nat.le_refl _)
  unfold ringS
  by_cases hneg : firstTo r r.length < 0
  · rw [if_pos hneg]
    refine ⟨by omega, ?_⟩
    obtain ⟨k, hk⟩ : ∃ k, r.length = k + 1 := ⟨r.length - 1, by omega⟩
    obtain ⟨p, hp⟩ := getE r k (by omega)
    obtain ⟨q, hq⟩ := getE r ((k + 1) % r.length) (Nat.mod_lt _ (by omega))
    have hpo := f2 hneg k (by omega) p hp
    have hqo := f2 hneg _ (Nat.mod_lt _ (by omega)) q hq
    have hra : ringAt r k = [p, ((btw (at2 p) (at2 q)).1, (btw (at2 p) (at2 q)).2, true)] := by
      unfold ringAt
      simp only [hp, hq]
      rw [if_pos ⟨hpo, hqo⟩]
    refine ⟨((btw (at2 p) (at2 q)).1, (btw (at2 p) (at2 q)).2, true), ?_, rfl⟩
    rw [hk, ringTo_succ, hra, List.getElem?_append_right (by simp)]
    simp
  · rw [if_neg hneg]
    exact ⟨by omega, f1 (by omega)⟩
/-- the ring of a contour: it begins on the curve; no two off follow one another; how much it comes to -/
theorem ringL_facts (r : List P3) (h0 : 0 < r.length) : ∃ q, (ringL r)[0]? = some q ∧ q.2.2 = true ∧ noo (ringL r) q ∧ wsum (ringL r) q = cntTo r r.length := by
  obtain ⟨hs, q, hq, hon⟩ := ringS_on r h0
  obtain ⟨p0, hp0⟩ := getE r 0 h0
  obtain ⟨c1, c2⟩ := ringTo_count r r.length (Nat.le_refl _) h0 p0 (by rw [Nat.mod_self]; exact hp0)
  have hsplit : ringTo r r.length = (ringTo r r.length).take (ringS r) ++ (ringTo r r.length).drop (ringS r) := (List.take_append_drop _ _).symm
  have hdq : ∀ z, hd ((ringTo r r.length).drop (ringS r)) z = q := fun z => by
    obtain ⟨g1, g2⟩ := List.getElem?_eq_some_iff.1 hq
    rw [List.drop_eq_getElem_cons g1, g2]
    rfl
  have hhead : (hd (ringTo r r.length) q).2.2 = p0.2.2 := by
    obtain ⟨k, hk⟩ : ∃ k, r.length = k + 1 := ⟨r.length - 1, by omega⟩
    have : ∀ j, 0 < j → j ≤ r.length → ∀ z, hd (ringTo r j) z = p0 := by
      intro j
      induction j with
      | zero => intro h; omega
      | succ j ih =>
        intro _ hj z
        rw [ringTo_succ, hd_append]
        obtain ⟨pj, hpj⟩ := getE r j (by omega)
        obtain ⟨qj, hqj⟩ := getE r ((j + 1) % r.length) (Nat.mod_lt _ (by omega))
        by_cases hj0 : j = 0
        · subst hj0
          rw [hp0] at hpj
          cases hpj
          show hd [] _ = _
          exact (ringAt_facts r 0 p0 qj hp0 hqj).1 z
        · exact ih (by omega) (by omega) _
    rw [this r.length h0 (Nat.le_refl _)]
  have htake : (hd ((ringTo r r.length).take (ringS r)) q).2.2 = p0.2.2 := by
    rw [← hhead]
    conv => rhs; rw [hsplit, hd_append, hdq]
  rw [hsplit, wsum_append, hdq] at c1
  rw [hsplit, noo_append, hdq] at c2
  refine ⟨q, ?_, hon, ?_, ?_⟩
  · unfold ringL
    rw [List.getElem?_append_left (by simp; omega), List.getElem?_drop, Nat.add_zero]
    exact hq
  · unfold ringL
    rw [noo_append]
    exact ⟨noo_on _ htake.symm c2.2, c2.1⟩
  · unfold ringL
    rw [wsum_append, wsum_on _ htake]
    omega
theorem rowL_ringL_count (r : List P3) (h0 : 0 < r.length) : (rowL (ringL r)).length = cntTo r r.length := by
  obtain ⟨q, h1, h2, h3, h4⟩ := ringL_facts r h0
  rw [rowL_count _ q h1 h2 h3, h4]
end Go.Proofs.Ytfpdbdbgemolgaa
