/- Plain Lean: a set, as the library's sort and compact make it. -/
import Derived.Test.YtkijckccfookeaaGreatDoorPParse
import Derived.Test.YtkijckccfookeaaGreatDoorPaX
import Derived.Test.YtkijckccfookeaaGreatDoorShelf
import Derived.Lib.SlicesCompact
import Derived.Sort.OwnSortedInts
import Derived.Lib.RowBridge
namespace Go.Proofs.YtkijckccfookeaaGreatDoor
open Go.Sort

theorem mem_insS (n x : Int) (l : List Int) : x ∈ insS n l ↔ x = n ∨ x ∈ l := by
  induction l with
  | nil => simp [insS]
  | cons y r ih =>
    rw [insS]
    split
    · simp
    · split
      · rename_i h
        subst h
        simp
      · rw [List.mem_cons, ih, List.mem_cons]
        constructor
        · rintro (h | h | h)
          · exact .inr (.inl h)
          · exact .inl h
          · exact .inr (.inr h)
        · rintro (h | h | h)
          · exact .inr (.inl h)
          · exact .inl h
          · exact .inr (.inr h)
theorem insS_up (n : Int) (l : List Int) (h : l.Pairwise (· < ·)) : (insS n l).Pairwise (· < ·) := by
  induction l with
  | nil => simp [insS]
  | cons y r ih =>
    rw [List.pairwise_cons] at h
    rw [insS]
    split
    · rename_i h1
      rw [List.pairwise_cons]
      refine ⟨fun a ha => ?_, List.pairwise_cons.2 h⟩
      rcases List.mem_cons.1 ha with rfl | ha
      · exact h1
      · have := h.1 a ha; omega
    · split
      · exact List.pairwise_cons.2 h
      · rw [List.pairwise_cons]
        refine ⟨fun a ha => ?_, ih h.2⟩
        rcases (mem_insS n a r).1 ha with rfl | ha
        · omega
        · exact h.1 a ha
theorem mem_setOf (x : Int) (l : List Int) : x ∈ setOf l ↔ x ∈ l := by
  induction l with
  | nil => simp [setOf]
  | cons y r ih =>
    show x ∈ insS y (setOf r) ↔ _
    rw [mem_insS, ih, List.mem_cons]
theorem setOf_up (l : List Int) : (setOf l).Pairwise (· < ·) := by
  induction l with
  | nil => exact List.Pairwise.nil
  | cons y r ih => exact insS_up y _ ih
theorem up_uniq (a b : List Int) (ha : a.Pairwise (· < ·)) (hb : b.Pairwise (· < ·)) (h : ∀ x, x ∈ a ↔ x ∈ b) : a = b := by
  induction a generalizing b with
  | nil =>
    cases b with
    | nil => rfl
    | cons y s => exact absurd ((h y).2 (by simp)) (by simp)
  | cons x r ih =>
    cases b with
    | nil => exact absurd ((h x).1 (by simp)) (by simp)
    | cons y s =>
      rw [List.pairwise_cons] at ha hb
      have hxy : x = y := by
        rcases List.mem_cons.1 ((h x).1 (by simp)) with e | hx
        · exact e
        · rcases List.mem_cons.1 ((h y).2 (by simp)) with e | hy
          · exact e.symm
          · have h1 := hb.1 x hx
            have h2 := ha.1 y hy
            omega
      subst hxy
      congr 1
      refine ih s ha.2 hb.2 fun z => ?_
      constructor
      · intro hz
        rcases List.mem_cons.1 ((h z).1 (by simp [hz])) with e | hs
        · have := ha.1 z hz; omega
        · exact hs
      · intro hz
        rcases List.mem_cons.1 ((h z).2 (by simp [hz])) with e | hs
        · have := hb.1 z hz; omega
        · exact hs
theorem comp_up (zs : List Int) (hs : zs.Pairwise (· ≤ ·)) (m : Nat) (hm : m ≤ zs.length) : (Lib.compactUpTo zs.toArray m).Pairwise (· < ·) ∧ (∀ x, x ∈ Lib.compactUpTo zs.toArray m ↔ x ∈ zs.take m) ∧ (∀ x, x ∈ Lib.compactUpTo zs.toArray m → 0 < m → x ≤ zs.toArray[m - 1]!) := by
  induction m with
  | zero => exact ⟨by simp [Lib.compactUpTo], by simp [Lib.compactUpTo], fun x _ h => by omega⟩
  | succ m ih =>
    obtain ⟨h1, h2, h3⟩ := ih (by omega)
    have hlt : m < zs.length := by omega
    have hd : zs.toArray[m]! = zs[m] := by simp [hlt]
    have htk : zs.take (m + 1) = zs.take m ++ [zs[m]] := (List.take_append_getElem hlt).symm
    rw [Lib.compactUpTo_succ, hd]
    cases hk : Lib.keeps zs.toArray m with
    | true =>
      have hlow : ∀ x ∈ Lib.compactUpTo zs.toArray m, x < zs[m] := by
        intro x hx
        by_cases h0 : m = 0
        · subst h0
          simp [Lib.compactUpTo] at hx
        · have hle := h3 x hx (by omega)
          have hne : zs.toArray[m]! ≠ zs.toArray[m - 1]! := by
            unfold Lib.keeps at hk
            rw [decide_eq_true_eq] at hk
            exact hk.resolve_left h0
          have hd1 : zs.toArray[m - 1]! = zs[m - 1] := by simp [show m - 1 < zs.length by omega]
          rw [hd, hd1] at hne
          rw [hd1] at hle
          have := List.pairwise_iff_getElem.1 hs (m - 1) m (by omega) hlt (by omega)
          omega
      refine ⟨?_, fun x => ?_, fun x hx _ => ?_⟩
      · simp only [if_true]
        rw [List.pairwise_append]
        exact ⟨h1, by simp, fun a ha b hb => by simp only [List.mem_singleton] at hb; subst hb; exact hlow a ha⟩
      · simp only [if_true]
        rw [htk, List.mem_append, List.mem_append, h2]
      · rw [Nat.add_sub_cancel, hd]
        simp only [if_true] at hx
        rcases List.mem_append.1 hx with h | h
        · exact Int.le_of_lt (hlow x h)
        · simp only [List.mem_singleton] at h
          omega
    | false =>
      have h0 : 0 < m := by
        rcases Nat.eq_zero_or_pos m with h | h
        · subst h
          simp [Lib.keeps] at hk
        · exact h
      have heq : zs.toArray[m]! = zs.toArray[m - 1]! := by
        unfold Lib.keeps at hk
        rw [decide_eq_false_iff_not] at hk
        by_cases h : zs.toArray[m]! = zs.toArray[m - 1]!
        · exact h
        · exact absurd (.inr h) hk
      have hd1 : zs.toArray[m - 1]! = zs[m - 1] := by simp [show m - 1 < zs.length by omega]
      rw [hd, hd1] at heq
      simp only [Bool.false_eq_true, if_false, List.append_nil]
      refine ⟨h1, fun x => ?_, fun x hx _ => ?_⟩
      · rw [htk, List.mem_append, h2, List.mem_singleton]
        constructor
        · exact .inl
        · rintro (h | h)
          · exact h
          · rw [h, heq]
            exact List.mem_take_iff_getElem.2 ⟨m - 1, by omega, rfl⟩
      · rw [Nat.add_sub_cancel, hd]
        have := h3 x hx h0
        rw [hd1] at this
        omega
theorem compact_setOf (l : List Int) : Lib.compact (l.mergeSort fun x y => decide (x ≤ y)) = setOf l := by
  have hs : (l.mergeSort fun x y => decide (x ≤ y)).Pairwise (· ≤ ·) := by
    have := List.pairwise_mergeSort (le := fun x y : Int => decide (x ≤ y)) (fun a b c h1 h2 => by simp only [decide_eq_true_eq] at *; omega) (fun a b => by simp only [Bool.or_eq_true, decide_eq_true_eq]; omega) l
    exact this.imp (fun h => by simpa using h)
  obtain ⟨h1, h2, -⟩ := comp_up _ hs _ (Nat.le_refl _)
  refine up_uniq _ _ h1 (setOf_up l) fun x => ?_
  show x ∈ Lib.compactUpTo _ _ ↔ _
  rw [h2, List.take_length, mem_setOf]
  exact (List.mergeSort_perm l _).mem_iff
theorem setOf_len (l : List Int) : (setOf l).length ≤ l.length := by
  have hi : ∀ n l, (insS n l).length ≤ l.length + 1 := by
    intro n l
    induction l with
    | nil => simp [insS]
    | cons y r ih =>
      rw [insS]
      split
      · simp
      · split
        · simp
        · simp only [List.length_cons]; omega
  induction l with
  | nil => simp [setOf]
  | cons y r ih =>
    show (insS y (setOf r)).length ≤ _
    have := hi y (setOf r)
    simp only [List.length_cons]
    omega
end Go.Proofs.YtkijckccfookeaaGreatDoor
/- parse: sets.Of; the rows of a rule, their sets. -/
namespace Go.Proofs.YtkijckccfookeaaGreatDoor
open Go.RowKit Go.Sort

theorem cIs_map (l : List Int) : cIs l = l.map (Value.int .i64) := by
  induction l with
  | nil => rfl
  | cons x r ih => rw [cIs_cons, ih]; rfl
/-- a shorter end of an own row -/
theorem own_cut {w : World} {base g n c m : Nat} {e : TypeId} {xs ys : List Value} (h : w.ownsRow base e 1 (.slice (some ⟨g, 0, none⟩) n c) n (xs ++ ys)) (hm : xs.length = m) (hle : m ≤ n) : w.ownsRow base e 1 (.slice (some ⟨g, 0, none⟩) m c) m xs := by
  rcases h.2 with ⟨h0, _⟩ | ⟨g', cap', cur, hv, hg, hh, hn, hcap, hs, htk⟩
  · cases h0
  · cases hv
    refine ⟨by omega, .inr ⟨g, c, cur, rfl, hg, hh, by omega, hcap, hs, ?_⟩⟩
    have h9 : (cur.toList.take (n * 1)).take m = (xs ++ ys).take m := by rw [htk]
    rw [List.take_take, Nat.min_eq_left (by omega), List.take_append_of_le_length (by omega), List.take_of_length_le (l := xs) (by omega)] at h9
    rw [Nat.mul_one]
    exact h9
set_option maxRecDepth 100000 in
set_option maxHeartbeats 2000000 in
theorem setsOf1_ok (w : World) (A : Option Addr) (n c : Nat) (l : List Int) {Bd : Nat} (hr : Rd w Bd A n 1 (cIs l)) (hn : n ≤ 1000000000) :
    Calls Tryz.prog 173 #[.slice A n c] w fun e w' => ∃ A' c', e = .returned (.slice A' (setOf l).length c') ∧ w'.ownsRow w.heap.size 3 1 (.slice A' (setOf l).length c') (setOf l).length (cIs (setOf l)) ∧ Below w.heap.size w w' := by
  have hl : l.length = n := by have := hr.1; simpa [cIs_map] using this
  rcases Nat.eq_zero_or_pos n with h0 | h0
  · subst h0
    obtain rfl : l = [] := List.eq_nil_of_length_eq_zero hl
    have hz : Hid (setOf [] = []) := rfl
    have hcl : Hid (Calls Tryz.prog 143 #[.slice A 0 c] w fun e w' => ∃ A' c', e = .returned (.slice A' 0 c') ∧ w'.ownsRow w.heap.size 3 1 (.slice A' 0 c') 0 [] ∧ Below w.heap.size w w') := by
      show Calls _ _ _ _ _
      cases A with
      | none =>
        refine (Tryz.slices_Clone_int_nil 0 c w).mono ?_
        rintro e w' ⟨rfl, rfl⟩
        exact ⟨none, 0, rfl, World.ownsRow_nil _ _ _ _, Below.refl _ _⟩
      | some a =>
        refine (Tryz.slices_Clone_int_zero a c w).mono ?_
        rintro e w' ⟨v, rfl, ho, -, hb⟩
        obtain ⟨A', c', rfl⟩ := own_slice ho
        exact ⟨A', c', rfl, ho, hb⟩
    clear hr hn hl
    go_enter Tryz.func173, Tryz.ntmps173
    go_wp2_with fail
    refine hcl.out.mono ?_
    rintro e w1 ⟨A', c', rfl, ho, hb⟩
    go_wp2_with fail
    refine (Tryz.slices_Sort_int_none A' c' w1).mono ?_
    rintro e w2 ⟨rfl, rfl⟩
    go_wp2_with fail
    refine (Tryz.slices_Compact_int_empty A' c' _).mono ?_
    rintro e w3 ⟨rfl, rfl⟩
    go_wp2
    go_ret
    rw [hz.out]
    exact ⟨A', c', rfl, ho, hb⟩
  · obtain ⟨b, o, rfl, hbk, hcur⟩ := hr.2 h0
    have hcl := Lib.hid (Tryz.slices_Clone_int b o n c l w (by omega) (by omega) (fun j hj => by
      refine hcur j _ ?_
      rw [cIs_map, List.getElem?_map, List.getElem?_eq_getElem hj]
      simp [List.getD, List.getElem?_eq_getElem hj]))
    subst hl
    rw [List.take_length] at hcl
    have hn' := hn
    clear hr hbk hcur
    go_enter Tryz.func173, Tryz.ntmps173
    go_wp2_with fail
    refine hcl.out.mono ?_
    rintro e w1 ⟨v, rfl, ho, hne, hb⟩
    obtain ⟨g, cap, cur, rfl, hg, hh, hnc, hcap, hs, htk⟩ : ∃ g cap cur, v = .slice (some ⟨g, 0, none⟩) l.length cap ∧ w.heap.size ≤ g ∧ w1.heap[g]? = some (.cells cur 3 (0, 0)) ∧ l.length ≤ cap ∧ cap ≤ maxLen ∧ cur.size = cap * 1 ∧ cur.toList.take l.length = l.map (Value.int .i64) := by
      rcases ho.2 with ⟨_, h⟩ | ⟨g, cap, cur, hv, hg, hh, hnc, hcap, hs, htk⟩
      · omega
      · exact ⟨g, cap, cur, hv, hg, hh, hnc, hcap, hs, by rw [Nat.mul_one] at htk; exact htk⟩
    have hgl : g < w1.heap.size := (Array.getElem?_eq_some_iff.1 hh).1
    have hH := holds_of_blockI hh htk
    have hsort := Lib.hid (Tryz.slices_Sort_int g 0 cap l w1 hH hgl (by omega))
    clear hne ho
    go_wp2_with fail
    refine hsort.out.mono ?_
    rintro e w2 ⟨rfl, q, os, hw2⟩
    have hml : (l.mergeSort fun x y => decide (x ≤ y)).length = l.length := List.length_mergeSort _
    have ho2 := ownsRow_sortedI (base := w.heap.size) (n := q) (os := os) hml hg hh hnc hcap hs
    have hg2 := grownBy_sortedI (w := w1) (g := g) (n := q) (os := os) (l.mergeSort fun x y => decide (x ≤ y)).toArray
    rw [← hw2] at ho2 hg2
    have hcs := compact_setOf l
    generalize (l.mergeSort fun x y => decide (x ≤ y)) = ms at *
    obtain ⟨cur2, hh2, hs2, htk2⟩ : ∃ cur2, w2.heap[g]? = some (.cells cur2 3 (0, 0)) ∧ cur2.size = cap * 1 ∧ cur2.toList.take ms.length = ms.map (Value.int .i64) := by
      rcases ho2.2 with ⟨h, _⟩ | ⟨g', cap', cur', hv, -, hh', -, -, hs', htk'⟩
      · cases h
      · cases hv
        exact ⟨cur', hh', hs', by rw [Nat.mul_one] at htk'; rw [hml]; exact htk'⟩
    have hcomp := Tryz.slices_Compact_int g 0 cap ms w2 (holds_of_blockI hh2 htk2) (by omega) (by omega)
    rw [hcs, hml] at hcomp
    have Hcomp := Lib.hid hcomp
    have hle := setOf_len l
    clear hsort hcl hcomp hw2 hh htk hH
    go_wp2_with fail
    refine Hcomp.out.mono ?_
    rintro e w3 ⟨rfl, q3, hw3⟩
    have hl3 : (setOf l ++ List.replicate (l.length - (setOf l).length) 0).length = l.length := by simp; omega
    have ho3 := ownsRow_sortedI (base := w.heap.size) (n := q3) (os := #[]) hl3 hg hh2 hnc hcap hs2
    have hg3 := grownBy_sortedI (w := w2) (g := g) (n := q3) (os := #[]) (setOf l ++ List.replicate (l.length - (setOf l).length) 0).toArray
    rw [grow_empty, ← hw3] at ho3 hg3
    rw [List.map_append, ← cIs_map] at ho3
    have Ho := Lib.hid (own_cut (m := (setOf l).length) ho3 (by simp [cIs_map]) hle)
    have Hb := Lib.hid ((hb.grown hg2 hb.size (fun k e => by cases e; exact hg)).grown hg3 (Nat.le_trans hb.size hg2.size) (fun k e => by cases e; exact hg))
    clear ho3 hg3 hw3 ho2 hg2
    go_wp2
    go_ret
    exact ⟨_, _, rfl, Ho.out, Hb.out⟩
end Go.Proofs.YtkijckccfookeaaGreatDoor
