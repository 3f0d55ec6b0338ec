/- Plain facts: the lines of a contour that goes the other way round. -/
import Derived.Test.YtfpdbdbgemolgaaPureCount
namespace Go.Proofs.Ytfpdbdbgemolgaa
open Go.RowKit

def crv8 (a c b : P3) : List P2 := (List.range 8).map fun s => crv (at2 a) (at2 c) (at2 b) (s + 1)
/-- the row from a point on, over a list of points, to a last one -/
def path (p : P3) : List P3 → P3 → List P2
  | [], z => [at2 z]
  | [q], z => if q.2.2 = true then [at2 q, at2 z] else crv8 p q z
  | q :: b :: l, z => if q.2.2 = true then at2 q :: path q (b :: l) z else crv8 p q b ++ path b l z
theorem path_on (p q z : P3) (l : List P3) (h : q.2.2 = true) : path p (q :: l) z = at2 q :: path q l z := by
  cases l with
  | nil => simp [path, h]
  | cons b l => simp [path, h]
theorem path_off1 (p q z : P3) (h : q.2.2 = false) : path p [q] z = crv8 p q z := by simp [path, h]
theorem path_off (p q b z : P3) (l : List P3) (h : q.2.2 = false) : path p (q :: b :: l) z = crv8 p q b ++ path b l z := by simp [path, h]

theorem rowFrom_path (rg : List P3) (q : P3) (hq : rg[0]? = some q) (hon : q.2.2 = true) : ∀ k i a, rg[i]? = some a → a.2.2 = true → rg.length ≤ i + k → noo (rg.drop i) q → rowFrom rg k i = path a (rg.drop (i + 1)) q := by
  intro k
  induction k using Nat.strongRecOn with
  | _ k ih =>
    intro i a ha haon h2 hni
    have hlt : i < rg.length := (List.getElem?_eq_some_iff.1 ha).1
    obtain ⟨k, rfl⟩ : ∃ j, k = j + 1 := ⟨k - 1, by omega⟩
    rw [rowFrom, if_pos hlt]
    have hd1 : rg.drop i = a :: rg.drop (i + 1) := by
      obtain ⟨g1, g2⟩ := List.getElem?_eq_some_iff.1 ha
      rw [List.drop_eq_getElem_cons g1, g2]
    obtain ⟨nx, hnx⟩ := getE rg ((i + 1) % rg.length) (Nat.mod_lt _ (by omega))
    obtain ⟨bh, hbh⟩ := getE rg ((i + 2) % rg.length) (Nat.mod_lt _ (by omega))
    simp only [ha, hnx, hbh]
    rw [hd1, noo] at hni
    by_cases h3 : i + 1 < rg.length
    · have hnx' := hnx
      rw [Nat.mod_eq_of_lt h3] at hnx'
      have hd2 : rg.drop (i + 1) = nx :: rg.drop (i + 2) := by
        obtain ⟨g1, g2⟩ := List.getElem?_eq_some_iff.1 hnx'
        rw [List.drop_eq_getElem_cons g1, g2]
      by_cases hnon : nx.2.2 = true
      · rw [if_pos hnon, hd2, path_on _ _ _ _ hnon, ih k (by omega) (i + 1) nx hnx' hnon (by omega) hni.2]
        rfl
      · have hnf : nx.2.2 = false := by simpa using hnon
        rw [if_neg hnon, hd2]
        have hni2 := hni.2
        rw [hd2, noo] at hni2
        by_cases h4 : i + 2 < rg.length
        · have hbh' := hbh
          rw [Nat.mod_eq_of_lt h4] at hbh'
          have hd3 : rg.drop (i + 2) = bh :: rg.drop (i + 3) := by
            obtain ⟨g1, g2⟩ := List.getElem?_eq_some_iff.1 hbh'
            rw [List.drop_eq_getElem_cons g1, g2]
          have hbon : bh.2.2 = true := by
            rcases hni2.1 with h5 | h5
            · rw [hnf] at h5; cases h5
            · rw [hd3] at h5; exact h5
          rw [hd3, path_off _ _ _ _ _ hnf, ih k (by omega) (i + 2) bh hbh' hbon (by omega) hni2.2]
          rfl
        · have h5 : i + 2 = rg.length := by omega
          rw [h5, Nat.mod_self, hq] at hbh
          cases hbh
          rw [List.drop_eq_nil_of_le (show rg.length ≤ i + 2 by omega), path_off1 _ _ _ hnf]
          have : rowFrom rg k (i + 2) = [] := by
            cases k with
            | zero => rfl
            | succ k => rw [rowFrom, if_neg (by omega)]
          rw [this, List.append_nil]
          rfl
    · have h4 : i + 1 = rg.length := by omega
      rw [h4, Nat.mod_self, hq] at hnx
      cases hnx
      rw [if_pos hon, List.drop_eq_nil_of_le (show rg.length ≤ i + 1 by omega)]
      have : rowFrom rg k (i + 1) = [] := by
        cases k with
        | zero => rfl
        | succ k => rw [rowFrom, if_neg (by omega)]
      rw [this]
      rfl
theorem rowT_path (q : P3) (l : List P3) (hon : q.2.2 = true) (hno : noo (q :: l) q) : rowT (q :: l) = at2 q :: path q l q := by
  unfold rowT
  have h := rowFrom_path (q :: l) q rfl hon (q :: l).length 0 q rfl hon (by omega) hno
  simp only [List.getElem?_cons_zero]
  rw [h]
  rfl

theorem path_snoc_on (p q : P3) (hq : q.2.2 = true) : ∀ n (m : List P3) (z : P3), m.length ≤ n → path z (m ++ [q]) p = path z m q ++ [at2 p] := by
  intro n
  induction n with
  | zero =>
    intro m z h
    have : m = [] := List.eq_nil_of_length_eq_zero (by omega)
    subst this
    simp [path, hq]
  | succ n ih =>
    intro m z h
    cases m with
    | nil => simp [path, hq]
    | cons a m =>
      cases ha : a.2.2 with
      | true =>
        rw [List.cons_append, path_on _ _ _ _ ha, path_on _ _ _ _ ha, ih m a (by simp at h; omega)]
        rfl
      | false =>
        cases m with
        | nil =>
          rw [List.cons_append, List.nil_append, path_off _ _ _ _ _ ha, path_off1 _ _ _ ha]
          rfl
        | cons b m =>
          rw [List.cons_append, List.cons_append, path_off _ _ _ _ _ ha, path_off _ _ _ _ _ ha, ih m b (by simp at h; omega), List.append_assoc]
theorem path_snoc_off (p q b : P3) (hq : q.2.2 = false) (hb : b.2.2 = true) : ∀ n (m : List P3) (z : P3), m.length ≤ n → path z (m ++ [b, q]) p = path z m b ++ crv8 b q p := by
  intro n
  induction n with
  | zero =>
    intro m z h
    have : m = [] := List.eq_nil_of_length_eq_zero (by omega)
    subst this
    rw [List.nil_append, path_on _ _ _ _ hb, path_off1 _ _ _ hq]
    rfl
  | succ n ih =>
    intro m z h
    cases m with
    | nil =>
      rw [List.nil_append, path_on _ _ _ _ hb, path_off1 _ _ _ hq]
      rfl
    | cons a m =>
      cases ha : a.2.2 with
      | true =>
        rw [List.cons_append, path_on _ _ _ _ ha, path_on _ _ _ _ ha, ih m a (by simp at h; omega)]
        rfl
      | false =>
        cases m with
        | nil =>
          rw [List.cons_append, List.nil_append, path_off _ _ _ _ _ ha, path_off1 _ _ _ ha, path_off1 _ _ _ hq]
        | cons c m =>
          rw [List.cons_append, List.cons_append, path_off _ _ _ _ _ ha, path_off _ _ _ _ _ ha, ih m c (by simp at h; omega), List.append_assoc]

theorem mixP_turn (s : Nat) (h1 : 1 ≤ s) (h7 : s ≤ 7) (a c b : Int) : mixP (s : Nat) b c a = mixP ((8 - s : Nat) : Int) a c b := by
  unfold mixP
  rcases (by omega : s = 1 ∨ s = 2 ∨ s = 3 ∨ s = 4 ∨ s = 5 ∨ s = 6 ∨ s = 7) with rfl | rfl | rfl | rfl | rfl | rfl | rfl
  all_goals
    congr 1
    refine wrap_of_cg ?_
    refine Cg.add ?_ (Cg.refl _)
    have e : ∀ x y z : Int, Cg (wrap64 (wrap64 x + wrap64 y) + wrap64 z) (x + y + z) := fun x y z => ((Cg.wrap _).trans ((Cg.wrap _).add (Cg.wrap _))).add (Cg.wrap _)
    refine (Cg.wrap _).trans ((e _ _ _).trans (Cg.symm ((Cg.wrap _).trans ((e _ _ _).trans ?_))))
    have t : ∀ x y z : Int, x + y + z = z + y + x := fun x y z => by omega
    rw [t]
    exact Cg.refl _
theorem mixP_end (a c b : Int) (_ha : bd 16384 a) (_hc : bd 16384 c) (hb : bd 16384 b) : mixP ((8 : Nat) : Int) a c b = b := by
  unfold bd at hb
  unfold mixP
  rw [show wrap64 ((8 - ((8 : Nat) : Int)) * (8 - ((8 : Nat) : Int))) = 0 by decide +kernel, show wrap64 (2 * ((8 : Nat) : Int) * (8 - ((8 : Nat) : Int))) = 0 by decide +kernel, show wrap64 (((8 : Nat) : Int) * ((8 : Nat) : Int)) = 64 by decide +kernel]
  unfold wrap64
  omega
theorem crv_turn (a c b : P3) (s : Nat) (h1 : 1 ≤ s) (h7 : s ≤ 7) : crv (at2 b) (at2 c) (at2 a) s = crv (at2 a) (at2 c) (at2 b) (8 - s) := by
  unfold crv
  rw [mixP_turn s h1 h7, mixP_turn s h1 h7]
theorem crv_end (a c b : P3) (ha : Bd a) (hc : Bd c) (hb : Bd b) : crv (at2 a) (at2 c) (at2 b) 8 = at2 b := by
  have h1 := mixP_end (at2 a).1 (at2 c).1 (at2 b).1 ha.1 hc.1 hb.1
  have h2 := mixP_end (at2 a).2 (at2 c).2 (at2 b).2 ha.2 hc.2 hb.2
  unfold crv
  rw [h1, h2]
theorem crv8_split (a c b : P3) (ha : Bd a) (hc : Bd c) (hb : Bd b) : ∃ m, crv8 a c b = m ++ [at2 b] ∧ crv8 b c a = m.reverse ++ [at2 a] := by
  refine ⟨(List.range 7).map fun s => crv (at2 a) (at2 c) (at2 b) (s + 1), ?_, ?_⟩
  · unfold crv8
    rw [List.range_succ, List.map_append]
    simp only [List.map_cons, List.map_nil]
    rw [crv_end a c b ha hc hb]
  · unfold crv8
    rw [List.range_succ, List.map_append]
    simp only [List.map_cons, List.map_nil]
    rw [crv_end b c a hb hc ha]
    congr 1
    have e : List.range 7 = [0, 1, 2, 3, 4, 5, 6] := rfl
    rw [e]
    simp only [List.map_cons, List.map_nil, List.reverse_cons, List.reverse_nil, List.nil_append, List.cons_append]
    rw [crv_turn a c b (0 + 1) (by omega) (by omega), crv_turn a c b (1 + 1) (by omega) (by omega), crv_turn a c b (2 + 1) (by omega) (by omega), crv_turn a c b (3 + 1) (by omega) (by omega), crv_turn a c b (4 + 1) (by omega) (by omega), crv_turn a c b (5 + 1) (by omega) (by omega), crv_turn a c b (6 + 1) (by omega) (by omega)]
theorem path_rev : ∀ n (l : List P3) (p z : P3), l.length ≤ n → p.2.2 = true → z.2.2 = true → Bd p → Bd z → (∀ q ∈ l, Bd q) → noo l z → (at2 p :: path p l z).reverse = at2 z :: path z l.reverse p := by
  intro n
  induction n with
  | zero =>
    intro l p z h _ _ _ _ _ _
    have : l = [] := List.eq_nil_of_length_eq_zero (by omega)
    subst this
    rfl
  | succ n ih =>
    intro l p z h hp hz bp bz bl hno
    cases l with
    | nil => rfl
    | cons q l =>
      have bq := bl q (by simp)
      cases hq : q.2.2 with
      | true =>
        rw [path_on _ _ _ _ hq, List.reverse_cons, ih l q z (by simp at h; omega) hq hz bq bz (fun x hx => bl x (by simp [hx])) hno.2, List.reverse_cons, path_snoc_on p q hq _ l.reverse z (Nat.le_refl _)]
        rfl
      | false =>
        cases l with
        | nil =>
          obtain ⟨m, e1, e2⟩ := crv8_split p q z bp bq bz
          rw [path_off1 _ _ _ hq, e1]
          show _ = at2 z :: path z [q] p
          rw [path_off1 _ _ _ hq, e2]
          simp
        | cons b l =>
          have bb := bl b (by simp)
          have hbon : b.2.2 = true := by
            rcases hno.1 with h5 | h5
            · rw [hq] at h5; cases h5
            · exact h5
          obtain ⟨m, e1, e2⟩ := crv8_split p q b bp bq bb
          have hih := ih l b z (by simp at h; omega) hbon hz bb bz (fun x hx => bl x (by simp [hx])) hno.2.2
          have hs := path_snoc_off p q b hq hbon _ l.reverse z (Nat.le_refl _)
          rw [path_off _ _ _ _ _ hq, e1]
          have e3 : at2 p :: (m ++ [at2 b] ++ path b l z) = (at2 p :: m) ++ (at2 b :: path b l z) := by simp
          have e4 : (q :: b :: l).reverse = l.reverse ++ [b, q] := by simp
          rw [e3, List.reverse_append, hih, e4, hs, e2]
          simp

/-- a contour's points with those between -/
def blk (p q : P3) : List P3 := if p.2.2 = false ∧ q.2.2 = false then [p, ((btw (at2 p) (at2 q)).1, (btw (at2 p) (at2 q)).2, true)] else [p]
def rl : List P3 → P3 → List P3
  | [], _ => []
  | p :: l, z => blk p (hd l z) ++ rl l z
def md (p q : P3) : List P3 := if p.2.2 = false ∧ q.2.2 = false then [((btw (at2 p) (at2 q)).1, (btw (at2 p) (at2 q)).2, true)] else []
theorem blk_md (p q : P3) : blk p q = p :: md p q := by unfold blk md; split <;> rfl
theorem md_comm (p q : P3) : md p q = md q p := by
  unfold md btw
  rw [Int.add_comm (at2 p).1, Int.add_comm (at2 p).2]
  by_cases h : p.2.2 = false ∧ q.2.2 = false
  · rw [if_pos h, if_pos h.symm]
  · rw [if_neg h, if_neg (fun h' => h h'.symm)]
/-- points with those between, within -/
def jl : List P3 → List P3
  | [] => []
  | [p] => [p]
  | p :: q :: l => p :: (md p q ++ jl (q :: l))
theorem rl_jl (z : P3) (hz : z.2.2 = true) : ∀ l, rl l z = jl l := by
  intro l
  induction l with
  | nil => rfl
  | cons p l ih =>
    cases l with
    | nil =>
      show blk p z ++ [] = [p]
      unfold blk
      rw [if_neg (by simp [hz])]
      rfl
    | cons q l =>
      show blk p q ++ rl (q :: l) z = p :: (md p q ++ jl (q :: l))
      rw [ih, blk_md]
      rfl
theorem jl_snoc : ∀ (l : List P3) (q p : P3), jl (l ++ [q, p]) = jl (l ++ [q]) ++ md q p ++ [p] := by
  intro l
  induction l with
  | nil => intro q p; simp [jl]
  | cons a l ih =>
    intro q p
    cases l with
    | nil => simp [jl]
    | cons b l =>
      have := ih q p
      simp only [List.cons_append] at this ⊢
      simp only [jl, this, List.append_assoc, List.cons_append]
theorem jl_rev : ∀ l : List P3, jl l.reverse = (jl l).reverse := by
  intro l
  induction l with
  | nil => rfl
  | cons p l ih =>
    cases l with
    | nil => rfl
    | cons q l =>
      have e : (p :: q :: l).reverse = l.reverse ++ [q, p] := by simp
      rw [e, jl_snoc]
      have e2 : l.reverse ++ [q] = (q :: l).reverse := by simp
      rw [e2, ih]
      simp only [jl, List.reverse_cons, List.reverse_append]
      rw [md_comm q p]
      have e3 : (md p q).reverse = md p q := by unfold md; split <;> rfl
      rw [e3]
theorem ringTo_rl (r : List P3) (q : P3) (hq : r[0]? = some q) : ∀ j k, k + j = r.length → ringTo r r.length = ringTo r k ++ rl (r.drop k) q := by
  intro j
  induction j with
  | zero =>
    intro k hk
    rw [List.drop_eq_nil_of_le (by omega), show k = r.length by omega]
    simp [rl]
  | succ j ih =>
    intro k hk
    rw [ih (k + 1) (by omega), ringTo_succ, List.append_assoc]
    congr 1
    obtain ⟨p, hp⟩ := getE r k (by omega)
    obtain ⟨nx, hnx⟩ := getE r ((k + 1) % r.length) (Nat.mod_lt _ (by omega))
    have hd1 : r.drop k = p :: r.drop (k + 1) := by
      obtain ⟨g1, g2⟩ := List.getElem?_eq_some_iff.1 hp
      rw [List.drop_eq_getElem_cons g1, g2]
    have hhd : hd (r.drop (k + 1)) q = nx := by
      by_cases h3 : k + 1 < r.length
      · rw [Nat.mod_eq_of_lt h3] at hnx
        obtain ⟨g1, g2⟩ := List.getElem?_eq_some_iff.1 hnx
        rw [List.drop_eq_getElem_cons g1, g2]
        rfl
      · have h4 : k + 1 = r.length := by omega
        rw [h4, Nat.mod_self, hq] at hnx
        cases hnx
        rw [h4, List.drop_length]
        rfl
    rw [hd1, rl, hhd]
    unfold ringAt
    simp only [hp, hnx]
    rfl
theorem firstTo_zero (r : List P3) (q : P3) (hq : r[0]? = some q) (hon : q.2.2 = true) : ∀ k, firstTo r (k + 1) = 0 := by
  intro k
  induction k with
  | zero =>
    rw [firstTo, if_pos ⟨by rw [hq]; simp [hon], by simp [firstTo]⟩]
    simp [ringTo]
  | succ k ih => rw [firstTo, ih, if_neg (by simp)]
theorem ringL_jl (q : P3) (l : List P3) (hon : q.2.2 = true) : ringL (q :: l) = q :: jl l := by
  have hS : ringS (q :: l) = 0 := by
    unfold ringS
    rw [List.length_cons, firstTo_zero (q :: l) q rfl hon, if_neg (by simp)]
    rfl
  unfold ringL
  rw [hS, List.drop_zero, List.take_zero, List.append_nil, ringTo_rl (q :: l) q rfl (q :: l).length 0 (by omega), List.drop_zero]
  show [] ++ (blk q (hd l q) ++ rl l q) = _
  rw [rl_jl q hon]
  unfold blk
  rw [if_neg (by simp [hon])]
  rfl
theorem turn_cons (q : P3) (l : List P3) : turn (q :: l) = q :: l.reverse := by
  apply List.ext_getElem?
  intro i
  by_cases hi : i < (q :: l).length
  · rw [turn_get _ _ hi]
    cases i with
    | zero => rw [Nat.sub_zero, Nat.mod_self]; rfl
    | succ i =>
      simp only [List.length_cons] at hi
      rw [Nat.mod_eq_of_lt (by simp; omega), List.length_cons, show l.length + 1 - (i + 1) = (l.length - 1 - i) + 1 by omega, List.getElem?_cons_succ, List.getElem?_cons_succ, List.getElem?_reverse (by omega)]
  · rw [List.getElem?_eq_none (by rw [turn_length]; omega), List.getElem?_eq_none (by simp at hi ⊢; omega)]
theorem jl_bd (l : List P3) (h : ∀ p ∈ l, Bd p) : ∀ p ∈ jl l, Bd p := by
  have hb : ∀ p q, Bd p → Bd q → ∀ x ∈ md p q, Bd x := fun p q hp hq x hx => by
    unfold md at hx
    split at hx
    · simp only [List.mem_cons, List.not_mem_nil, or_false] at hx
      subst hx
      obtain ⟨h1, h2⟩ := hp
      obtain ⟨h3, h4⟩ := hq
      unfold bd at h1 h2 h3 h4
      unfold Bd bd
      exact btw_in (at2 p) (at2 q) (-16384, -16384) (16384, 16384) (by decide) (by decide) ⟨h1, h2⟩ ⟨h3, h4⟩
    · simp at hx
  induction l with
  | nil => intro p hp; simp [jl] at hp
  | cons a l ih =>
    cases l with
    | nil => intro p hp; simp [jl] at hp; subst hp; exact h _ (by simp)
    | cons b l =>
      intro p hp
      simp only [jl, List.mem_cons, List.mem_append] at hp
      rcases hp with rfl | hp | hp
      · exact h _ (by simp)
      · exact hb a b (h a (by simp)) (h b (by simp)) p hp
      · exact ih (fun x hx => h x (by simp [hx])) p hp
/-- the whole row, closed, goes the other way round -/
theorem rowT_turn (q : P3) (l : List P3) (hon : q.2.2 = true) (h : ∀ p ∈ q :: l, Bd p) : rowT (ringL (turn (q :: l))) = (rowT (ringL (q :: l))).reverse := by
  obtain ⟨q1, g1, g2, g3, -⟩ := ringL_facts (q :: l) (by simp)
  obtain ⟨q2, k1, k2, k3, -⟩ := ringL_facts (q :: l.reverse) (by simp)
  rw [turn_cons, ringL_jl q _ hon, ringL_jl q _ hon]
  rw [ringL_jl q _ hon] at g1 g3 k1 k3
  simp only [List.getElem?_cons_zero, Option.some.injEq] at g1 k1
  subst g1 k1
  rw [rowT_path q _ hon k3, rowT_path q _ hon g3, path_rev _ (jl l) q q (Nat.le_refl _) hon hon (h q (by simp)) (h q (by simp)) (jl_bd l (fun p hp => h p (by simp [hp]))) g3.2, jl_rev]
theorem rowT_ends (q : P3) (l : List P3) (hon : q.2.2 = true) : ∃ t, rowT (ringL (q :: l)) = at2 q :: t ∧ t ≠ [] := by
  obtain ⟨q1, g1, g2, g3, -⟩ := ringL_facts (q :: l) (by simp)
  rw [ringL_jl q _ hon] at g1 g3 ⊢
  simp only [List.getElem?_cons_zero, Option.some.injEq] at g1
  subst g1
  rw [rowT_path q _ hon g3]
  refine ⟨_, rfl, ?_⟩
  cases jl l with
  | nil => simp [path]
  | cons a l =>
    cases ha : a.2.2 with
    | true => rw [path_on _ _ _ _ ha]; simp
    | false =>
      cases l with
      | nil => rw [path_off1 _ _ _ ha]; simp [crv8]
      | cons b l => rw [path_off _ _ _ _ _ ha]; simp [crv8]
theorem rowL_back (r : List P3) (q : P3) (hq : r[0]? = some q) (hon : q.2.2 = true) (h : ∀ p ∈ r, Bd p) : (rowL (ringL (turn r))).length = (rowL (ringL r)).length ∧ 0 < (rowL (ringL r)).length ∧
    ∀ k, k < (rowL (ringL r)).length → (rowL (ringL (turn r)))[k]? = (rowL (ringL r))[((rowL (ringL r)).length - k) % (rowL (ringL r)).length]? := by
  cases r with
  | nil => simp at hq
  | cons q' l =>
    simp only [List.getElem?_cons_zero, Option.some.injEq] at hq
    subst hq
    obtain ⟨t, ht, htne⟩ := rowT_ends q' l hon
    have hrev := rowT_turn q' l hon h
    obtain ⟨t', ht', -⟩ := rowT_ends q' l.reverse hon
    rw [← turn_cons] at ht'
    have htl : 0 < t.length := List.length_pos_iff.2 htne
    unfold rowL
    rw [hrev, ht]
    have hlen : (at2 q' :: t).dropLast.length = t.length := by simp
    have hlast : (at2 q' :: t)[t.length]? = some (at2 q') := by
      have h1 : (at2 q' :: t).reverse[0]? = some (at2 q') := by rw [← ht, ← hrev, ht']; rfl
      rw [List.getElem?_reverse (by simp)] at h1
      simpa using h1
    refine ⟨by simp, by omega, fun k hk => ?_⟩
    rw [hlen] at hk ⊢
    rw [List.getElem?_dropLast, List.getElem?_dropLast, if_pos (by simp; omega), if_pos (by simp; exact Nat.mod_lt _ htl), List.getElem?_reverse (by simp; omega)]
    have e : (at2 q' :: t).length - 1 - k = t.length - k := by simp
    rw [e]
    by_cases hk0 : k = 0
    · subst hk0
      rw [Nat.sub_zero, Nat.mod_self, hlast]
      rfl
    · rw [Nat.mod_eq_of_lt (by omega)]
end Go.Proofs.Ytfpdbdbgemolgaa
