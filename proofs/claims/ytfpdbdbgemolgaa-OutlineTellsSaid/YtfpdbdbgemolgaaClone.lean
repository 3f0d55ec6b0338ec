/- The contracts of slices.Clone (points, numbers), of fleuronref03.copied. -/
import Derived.Test.YtfpdbdbgemolgaaSame
namespace Go.Proofs.Ytfpdbdbgemolgaa
open Go.RowKit

theorem info40 : (Try.prog.info? 40).map (fun i => (i.zero, i.size, i.bytes)) = some (some (.agg #[.int .i64 0, .int .i64 0, .bool false]), 3, 24) := by kernel_rfl
theorem info3 : (Try.prog.info? 3).map (fun i => (i.zero, i.size, i.bytes)) = some (some (.int .i64 0), 1, 8) := by kernel_rfl

theorem eql22nil (w : World) (a : Option Addr) (n c : Nat) : (binOp .eql 22 (.slice a n c) (.slice none 0 0)).run Try.prog w = .ok (.bool a.isNone) w := Lib.run_eql_slice_nil w _ _ a n c 0 0 Try.underlying22
theorem eql23nil (w : World) (a : Option Addr) (n c : Nat) : (binOp .eql 23 (.slice a n c) (.slice none 0 0)).run Try.prog w = .ok (.bool a.isNone) w := Lib.run_eql_slice_nil w _ _ a n c 0 0 Try.underlying23

set_option maxHeartbeats 400000 in
theorem clone3 (w : World) (B : Nat) (A : Option Addr) (n c : Nat) (ps : List P3) (hA : Rd w B A n 3 (c3s ps)) (hB : B ≤ w.heap.size) (hn : n * 24 ≤ 140737488355328) :
    Calls Try.prog 35 #[.slice A n c] w fun e w' => ∃ v, e = .returned v ∧ w'.ownsRow w.heap.size 40 3 v n (c3s ps) ∧ Below w.heap.size w w' := by
  obtain ⟨i0, hi0, hz0, hz1, hz2⟩ := info_parts info40
  have hnil := eql22nil
  rcases A with _ | ad
  · have h0 : n = 0 := by
      rcases Nat.eq_zero_or_pos n with h | h
      · exact h
      · obtain ⟨b, o, e, _⟩ := hA.2 h; cases e
    have hc : c3s ps = [] := List.eq_nil_of_length_eq_zero (by rw [hA.1, h0])
    have H := Lib.hid h0
    have Hc := Lib.hid hc
    clear h0 hc
    go_enter Try.func35, Try.ntmps35
    go_wp2
    go_ret
    refine ⟨.slice none 0 0, rfl, ?_, Below.refl _ _⟩
    rw [H.out, Hc.out]
    exact World.ownsRow_nil _ _ _ _
  · go_enter Try.func35, Try.ntmps35
    go_wp2_with (at_builtin; refine wpList_append_any _ rfl (.tmp 5) (.tmp 6) 22 rfl w.heap.size 40 i0 _ 3 24 Try.underlying22 hi0 hz0 hz1 hz2 rfl (by decide) (.slice (some ⟨w.heap.size, 0, none⟩) 0 0) 0 [] rfl (World.ownsRow_made w #[] 0 (Nat.le_refl _) (by simp [maxLen]) rfl) B (some ad) n c (c3s ps) rfl (hA.alloc hB _) (one3 ps) (by simp only [maxLen]; omega) (by omega) (by simp) ?_; intro v1 w1 hown1 hg1 hat1)
    go_ret
    refine ⟨v1, rfl, by simpa using hown1, ((Below.refl _ _).alloc (Nat.le_refl _) _).grown hg1 (by simp) (by simp [Value.ownBlock])⟩

set_option maxHeartbeats 400000 in
theorem cloneI (w : World) (B : Nat) (A : Option Addr) (n c : Nat) (ps : List Int) (hA : Rd w B A n 1 (cIs ps)) (hB : B ≤ w.heap.size) (hn : n * 8 ≤ 140737488355328) :
    Calls Try.prog 36 #[.slice A n c] w fun e w' => ∃ v, e = .returned v ∧ w'.ownsRow w.heap.size 3 1 v n (cIs ps) ∧ Below w.heap.size w w' := by
  obtain ⟨i0, hi0, hz0, hz1, hz2⟩ := info_parts info3
  have hnil := eql23nil
  rcases A with _ | ad
  · have h0 : n = 0 := by
      rcases Nat.eq_zero_or_pos n with h | h
      · exact h
      · obtain ⟨b, o, e, _⟩ := hA.2 h; cases e
    have hc : cIs ps = [] := List.eq_nil_of_length_eq_zero (by rw [hA.1, h0])
    have H := Lib.hid h0
    have Hc := Lib.hid hc
    clear h0 hc
    go_enter Try.func36, Try.ntmps36
    go_wp2
    go_ret
    refine ⟨.slice none 0 0, rfl, ?_, Below.refl _ _⟩
    rw [H.out, Hc.out]
    exact World.ownsRow_nil _ _ _ _
  · go_enter Try.func36, Try.ntmps36
    go_wp2_with (at_builtin; refine wpList_append_any _ rfl (.tmp 5) (.tmp 6) 23 rfl w.heap.size 3 i0 _ 1 8 Try.underlying23 hi0 hz0 hz1 hz2 rfl (by decide) (.slice (some ⟨w.heap.size, 0, none⟩) 0 0) 0 [] rfl (World.ownsRow_made w #[] 0 (Nat.le_refl _) (by simp [maxLen]) rfl) B (some ad) n c (cIs ps) rfl (hA.alloc hB _) (oneI ps) (by simp only [maxLen]; omega) (by omega) (by simp) ?_; intro v1 w1 hown1 hg1 hat1)
    go_ret
    refine ⟨v1, rfl, by simpa using hown1, ((Below.refl _ _).alloc (Nat.le_refl _) _).grown hg1 (by simp) (by simp [Value.ownBlock])⟩

/-- an outline comes back that lies in memory as these points and ends; what was there is as it was -/
def RetO (w : World) (ps : List P3) (es : List Int) (e : Ending) (w' : World) : Prop :=
  ∃ A n c E m d, e = .returned (.agg #[.slice A n c, .slice E m d]) ∧ (n ≤ c ∧ c ≤ 9223372036854775807) ∧ Rd w' w'.heap.size A n 3 (c3s ps) ∧ Rd w' w'.heap.size E m 1 (cIs es) ∧ Below w.heap.size w w'

theorem retO_of_own {w w' : World} {v u : Value} {n m b1 b2 : Nat} {ps : List P3} {es : List Int} (h1 : w'.ownsRow b1 40 3 v n (c3s ps)) (h2 : w'.ownsRow b2 3 1 u m (cIs es)) (hb : Below w.heap.size w w') :
    RetO w ps es (.returned (.agg #[v, u])) w' := by
  obtain ⟨A, c, rfl, r1⟩ := Rd.of_own h1
  obtain ⟨E, d, rfl, r2⟩ := Rd.of_own h2
  refine ⟨A, n, c, E, m, d, rfl, ?_, r1, r2, hb⟩
  rcases h1.2 with ⟨h, h0⟩ | ⟨g', cap', cur, h, _, _, h3, h4, _⟩
  · simp only [Value.slice.injEq] at h
    omega
  · simp only [Value.slice.injEq, true_and] at h
    obtain ⟨_, rfl⟩ := h
    simp only [maxLen] at h4
    omega

/-- what is moved -/
def mv (dx dy : Int) (p : P3) : P3 := (wrap64 (p.1 + dx), wrap64 (p.2.1 + dy), p.2.2)
def mvTo (dx dy : Int) (k : Nat) (ps : List P3) : List P3 := (ps.take k).map (mv dx dy) ++ ps.drop k
theorem mvTo_zero (dx dy : Int) (ps : List P3) : mvTo dx dy 0 ps = ps := by simp [mvTo]
theorem mvTo_all (dx dy : Int) (ps : List P3) (k : Nat) (h : ps.length ≤ k) : mvTo dx dy k ps = ps.map (mv dx dy) := by
  simp [mvTo, List.take_of_length_le h, List.drop_eq_nil_of_le h]
theorem mvTo_get (dx dy : Int) (ps : List P3) (k : Nat) : (mvTo dx dy k ps)[k]? = ps[k]? := by
  by_cases h : k < ps.length
  · simp [mvTo, List.getElem?_append_right, Nat.min_eq_left (Nat.le_of_lt h)]
  · rw [List.getElem?_eq_none (by simp [mvTo]; omega), List.getElem?_eq_none (by omega)]
theorem mvTo_length (dx dy : Int) (ps : List P3) (k : Nat) : (mvTo dx dy k ps).length = ps.length := by simp [mvTo]; omega
theorem mvTo_succ (dx dy : Int) (ps : List P3) (k : Nat) (x y : Int) (z : Bool) (h : ps[k]? = some (x, y, z)) :
    (mvTo dx dy k ps).set k (wrap64 (x + dx), wrap64 (y + dy), z) = mvTo dx dy (k + 1) ps := by
  obtain ⟨hk, hg⟩ := List.getElem?_eq_some_iff.1 h
  have hl : ((ps.take k).map (mv dx dy)).length = k := by simp; omega
  unfold mvTo
  rw [List.set_append_right _ _ (by omega), hl, Nat.sub_self, List.drop_eq_getElem_cons hk, List.set_cons_zero, List.take_succ_eq_append_getElem hk, hg]
  simp [mv]
theorem c3s_set (ps : List P3) (k : Nat) (x y x' y' : Int) (z : Bool) (h : ps[k]? = some (x, y, z)) :
    ((c3s ps).set (k * 3) (.int .i64 x')).set (k * 3 + 1) (.int .i64 y') = c3s (ps.set k (x', y', z)) := by
  induction ps generalizing k with
  | nil => simp at h
  | cons q ps ih =>
    cases k with
    | zero => simp at h; subst h; simp [c3s, c3]
    | succ k =>
      have := ih k (by simpa using h)
      have e : ∀ q ps, c3s (q :: ps) = c3 q ++ c3s ps := fun _ _ => rfl
      rw [List.set_cons_succ, e, e, ← this, show (k + 1) * 3 = k * 3 + 3 by omega]
      simp [c3]
end Go.Proofs.Ytfpdbdbgemolgaa
