/- The contract of slices.Reverse at points: a part of a row of the call's own is turned round in place. -/
import Derived.Test.YtfpdbdbgemolgaaClone
namespace Go.Proofs.Ytfpdbdbgemolgaa
open Go.RowKit

/-- a list by its places -/
def byIdx (ps : List P3) (ix : Nat → Nat) : List P3 := (List.range ps.length).map fun t => ps.getD (ix t) (0, 0, false)
theorem byIdx_length (ps : List P3) (ix : Nat → Nat) : (byIdx ps ix).length = ps.length := by simp [byIdx]
theorem byIdx_get (ps : List P3) (ix : Nat → Nat) (t : Nat) (h : t < ps.length) (hi : ix t < ps.length) : (byIdx ps ix)[t]? = ps[ix t]? := by
  simp [byIdx, h, List.getElem?_eq_getElem hi]
theorem byIdx_id (ps : List P3) (ix : Nat → Nat) (h : ∀ t, t < ps.length → ix t = t) : byIdx ps ix = ps := by
  apply List.ext_getElem?
  intro t
  by_cases ht : t < ps.length
  · rw [byIdx_get ps ix t ht (by rw [h t ht]; exact ht), h t ht]
  · rw [List.getElem?_eq_none (by rw [byIdx_length]; omega), List.getElem?_eq_none (by omega)]
theorem byIdx_congr (ps : List P3) (ix iy : Nat → Nat) (h : ∀ t, t < ps.length → ix t = iy t) : byIdx ps ix = byIdx ps iy := by
  unfold byIdx
  exact List.map_congr_left fun t ht => by rw [h t (by simpa using ht)]
/-- the places behind i exchanges, of the part of L from a on -/
def rvIx (a L i t : Nat) : Nat := if (a ≤ t ∧ t < a + i) ∨ (a + L ≤ t + i ∧ t < a + L) then a + (a + L) - 1 - t else t
theorem c3s_set3 (ps : List P3) (k : Nat) (x y : Int) (z : Bool) (h : k < ps.length) :
    (((c3s ps).set (k * 3) (.int .i64 x)).set (k * 3 + 1) (.int .i64 y)).set (k * 3 + 2) (.bool z) = c3s (ps.set k (x, y, z)) := by
  induction ps generalizing k with
  | nil => simp at h
  | cons q ps ih =>
    have e : ∀ q ps, c3s (q :: ps) = c3 q ++ c3s ps := fun _ _ => rfl
    cases k with
    | zero => simp [c3s, c3]
    | succ k =>
      have := ih k (by simpa using h)
      rw [List.set_cons_succ, e, e, ← this, show (k + 1) * 3 = k * 3 + 3 by omega]
      simp [c3]
theorem own_set3 {w : World} {base g n cap : Nat} {e : TypeId} {ps : List P3} (h : w.ownsRow base e 3 (.slice (some ⟨g, 0, none⟩) n cap) n (c3s ps)) {k : Nat} (hk : k < ps.length) (x y : Int) (z : Bool) :
    (((w.setCell ⟨g, k * 3, none⟩ (.int .i64 x)).setCell ⟨g, k * 3 + 1, none⟩ (.int .i64 y)).setCell ⟨g, k * 3 + 2, none⟩ (.bool z)).ownsRow base e 3 (.slice (some ⟨g, 0, none⟩) n cap) n (c3s (ps.set k (x, y, z))) := by
  have h1 := (((h.stored (k * 3) (.int .i64 x)).1.stored (k * 3 + 1) (.int .i64 y)).1.stored (k * 3 + 2) (.bool z)).1
  rwa [c3s_set3 ps k x y z hk] at h1
theorem byIdx_swap (ps : List P3) (a L i : Nat) (p q : P3) (hL : a + L ≤ ps.length) (hi : i + i + 1 < L) (hp : ps[a + i]? = some p) (hq : ps[a + (L - 1 - i)]? = some q) :
    ((byIdx ps (rvIx a L i)).set (a + i) q).set (a + (L - 1 - i)) p = byIdx ps (rvIx a L (i + 1)) := by
  apply List.ext_getElem?
  intro t
  by_cases ht : t < ps.length
  · rw [List.getElem?_set, List.getElem?_set]
    simp only [List.length_set, byIdx_length]
    by_cases h1 : a + (L - 1 - i) = t
    · subst h1
      have hx : rvIx a L (i + 1) (a + (L - 1 - i)) = a + i := by unfold rvIx; rw [if_pos (by omega)]; omega
      rw [if_pos rfl, if_pos (by omega), byIdx_get _ _ _ ht (by rw [hx]; omega), hx, hp]
    · rw [if_neg h1]
      by_cases h2 : a + i = t
      · subst h2
        have hx : rvIx a L (i + 1) (a + i) = a + (L - 1 - i) := by unfold rvIx; rw [if_pos (by omega)]; omega
        rw [if_pos rfl, if_pos (by omega), byIdx_get _ _ _ ht (by rw [hx]; omega), hx, hq]
      · rw [if_neg h2]
        have hx : rvIx a L (i + 1) t = rvIx a L i t := by
          unfold rvIx
          by_cases h3 : (a ≤ t ∧ t < a + i) ∨ (a + L ≤ t + i ∧ t < a + L)
          · rw [if_pos (by omega), if_pos h3]
          · rw [if_neg (by omega), if_neg h3]
        have hb : rvIx a L i t < ps.length := by unfold rvIx; split <;> omega
        rw [byIdx_get _ _ _ ht hb, byIdx_get _ _ _ ht (by rw [hx]; exact hb), hx]
  · rw [List.getElem?_eq_none (by simp [byIdx_length]; omega), List.getElem?_eq_none (by rw [byIdx_length]; omega)]

set_option maxHeartbeats 2000000 in
theorem reverse_ok (w : World) (base g n cap a L c : Nat) (ps : List P3) (hown : w.ownsRow base 40 3 (.slice (some ⟨g, 0, none⟩) n cap) n (c3s ps)) (hL : a + L ≤ n) (hn : n ≤ 9223372036854775807) (A : Option Addr) (hA : 0 < L → A = some ⟨g, a * 3, none⟩) :
    Calls Try.prog 39 #[.slice A L c] w fun e w' => (∃ v, e = .returned v) ∧ w'.ownsRow base 40 3 (.slice (some ⟨g, 0, none⟩) n cap) n (c3s (byIdx ps (rvIx a L (L / 2)))) ∧ w.grownBy w' (some g) := by
  go_enter Try.func39, Try.ntmps39
  go_wp2
  go_loopw [2, 3] (fun i j wr => ∃ k : Nat, k + k ≤ L ∧ i = .int .i64 k ∧ j = .int .i64 ((L : Int) - 1 - k) ∧ wr.ownsRow base 40 3 (.slice (some ⟨g, 0, none⟩) n cap) n (c3s (byIdx ps (rvIx a L k))) ∧ w.grownBy wr (some g)) (fun i _ _ => L - (intOf i).toNat)
  case atStart => exact ⟨0, by omega, rfl, by simp, by rw [byIdx_id _ _ (fun t _ => by unfold rvIx; split <;> omega)]; exact hown, World.grownBy.refl _ _⟩
  case round =>
    obtain ⟨k, hk, rfl, rfl, how, hgr⟩ := hrel
    by_cases hlt : k + k + 1 < L
    · obtain rfl := hA (by omega)
      obtain ⟨j, hj⟩ : ∃ j : Nat, j = L - 1 - k := ⟨_, rfl⟩
      have hjI : (L : Int) - 1 - (k : Int) = (j : Int) := by omega
      have hjl : j < L := by omega
      have hkj : k < j := by omega
      have Hj := Lib.hid hj
      clear hj
      obtain ⟨A2, c2, hv2, hrd⟩ := Rd.of_own how
      simp only [Value.slice.injEq, true_and] at hv2
      obtain ⟨rfl, rfl⟩ := hv2
      obtain ⟨b1, o1, x1, y1, z1, e1, -, hp1, h11, h12, h13⟩ := hrd.at3 (k := a + k) (by omega)
      simp only [Option.some.injEq, Addr.mk.injEq, and_true] at e1
      obtain ⟨rfl, rfl⟩ := e1
      obtain ⟨b2, o2, x2, y2, z2, e2, -, hp2, h21, h22, h23⟩ := hrd.at3 (k := a + j) (by omega)
      simp only [Option.some.injEq, Addr.mk.injEq, and_true] at e2
      obtain ⟨rfl, rfl⟩ := e2
      simp only [Nat.zero_add, Nat.add_mul] at h11 h12 h13 h21 h22 h23
      have hfz := how.frozenAt
      rw [hjI]
      clear hjI
      go_wp2
      go_region
      all_goals go_wp2
      go_roundw
      case rel =>
        have hlp := hown.1
        rw [c3s_length] at hlp
        have hj := Hj.out
        have g1 : ps[a + k]? = some (x1, y1, z1) := by
          rw [← hp1.out, byIdx_get _ _ _ (by omega) (by unfold rvIx; split <;> omega)]
          congr 1
          unfold rvIx
          rw [if_neg (by omega)]
        have g2 : ps[a + (L - 1 - k)]? = some (x2, y2, z2) := by
          rw [← hp2.out, ← hj, byIdx_get _ _ _ (by omega) (by unfold rvIx; split <;> omega)]
          congr 1
          unfold rvIx
          rw [if_neg (by omega)]
        have s1 := own_set3 how (k := a + k) (by rw [byIdx_length]; omega) x2 y2 z2
        have s2 := own_set3 s1 (k := a + j) (by rw [List.length_set, byIdx_length]; omega) x1 y1 z1
        rw [hj, byIdx_swap ps a L k _ _ (by omega) (by omega) g1 g2, ← hj] at s2
        simp only [Nat.add_mul] at s2
        refine ⟨k + 1, by omega, by go_num, by congr 1; omega, s2.drew, only_drew ?_⟩
        refine only_setCell (p := ⟨g, _, none⟩) (only_setCell (p := ⟨g, _, none⟩) (only_setCell (p := ⟨g, _, none⟩) (only_setCell (p := ⟨g, _, none⟩) (only_setCell (p := ⟨g, _, none⟩) (only_setCell (p := ⟨g, _, none⟩) hgr (.inl rfl) _) (.inl rfl) _) (.inl rfl) _) (.inl rfl) _) (.inl rfl) _) (.inl rfl) _
      case measure => simp [intOf]; omega
    · have hlp := hown.1
      rw [c3s_length] at hlp
      have hle : (L : Int) - 1 - (k : Int) ≤ (k : Int) := by omega
      go_wp2
      go_end0
      refine ⟨⟨_, rfl⟩, ?_, hgr⟩
      rw [byIdx_congr ps (rvIx a L (L / 2)) (rvIx a L k) (fun t _ => ?_)]
      · exact how
      · unfold rvIx
        by_cases h : (a ≤ t ∧ t < a + k) ∨ (a + L ≤ t + k ∧ t < a + L)
        · rw [if_pos h, if_pos (by omega)]
        · rw [if_neg h]
          split <;> omega
end Go.Proofs.Ytfpdbdbgemolgaa
