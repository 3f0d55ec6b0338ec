/- fleuronlaw05.WordsAll returns true. -/
import Derived.Test.YtccnogdfnikioaaDoorShown
import Derived.Test.YtccnogdfnikioaaDoorRefLines
namespace Go.Proofs.YtccnogdfnikioaaDoor
open Go.RowKit

theorem pcs_len (s : B) : ∀ p ∈ pcs s, p.length ≤ s.length := by
  induction s with
  | nil => simp [pcs]
  | cons c r ih =>
    intro p hp
    rw [pcs] at hp
    split at hp
    · rcases List.mem_cons.1 hp with rfl | hp
      · simp
      · have := ih p hp
        simp
        omega
    · split at hp
      · rename_i q qs hq
        rw [hq] at ih
        rcases List.mem_cons.1 hp with rfl | hp
        · have := ih q (by simp)
          simpa using this
        · have := ih p (by simp [hp])
          simp
          omega
      · simp at hp
        subst hp
        simp
theorem linesFrom_mem (n : Nat) (ps : List B) (m : Nat) (h : ∀ p ∈ ps, p.length ≤ m) : ∀ r ∈ linesFrom n ps, r.length ≤ m := by
  induction ps generalizing n with
  | nil => simp [linesFrom]
  | cons p ps ih =>
    intro r hr
    rw [linesFrom, List.mem_append] at hr
    rcases hr with hr | hr
    · split at hr
      · simp at hr
      · simp only [List.mem_singleton] at hr
        subst hr
        rw [num_len]
        exact Nat.le_trans (one_len p) (h p (by simp))
    · exact ih (n + 1) (fun q hq => h q (by simp [hq])) r hr
theorem linesL_bound (s : B) : (linesL s).length ≤ s.length + 1 ∧ ∀ (i : Nat) (r : List P3), (linesL s)[i]? = some r → r.length ≤ s.length := by
  refine ⟨Nat.le_trans (linesFrom_len 1 _) (pcs_length s), fun i r hi => ?_⟩
  exact linesFrom_mem 1 (pcs s) s.length (pcs_len s) r (List.mem_of_getElem? hi)
set_option maxRecDepth 100000 in
set_option maxHeartbeats 4000000 in
theorem wordsAll_ok (w : World) (s : B) : Calls Tryd.prog 3 #[.string ⟨s.toArray⟩] w fun e w' => e = .returned (.bool true) ∧ Below w.heap.size w w' := by
  have hlen : (s.take 300).length ≤ 300 := by simp; omega
  obtain ⟨hb1, hb2⟩ := linesL_bound (s.take 300)
  have HB := Lib.hid hb2
  clear hb2
  go_enter Tryd.func3, Tryd.ntmps3
  go_wp2_with (first
    | (go_at_call 12; refine (shown_ok _).mono ?_; rintro e w1 ⟨rfl, hs1⟩)
    | (go_at_call 15; refine (few_ok _ s).mono ?_; rintro e w' ⟨rfl, rfl⟩)
    | (go_at_call 14; refine (lines_ok _ (s.take 300) (by omega)).mono ?_; rintro e w2 ⟨v2, rfl, hret2⟩; obtain ⟨A2, c2, rfl, hat2, hs2⟩ := RowsAt.of hret2; clear hret2)
    | (go_at_call 16; refine (refLines_ok _ (s.take 300) (by omega)).mono ?_; rintro e w3 ⟨v3, rfl, hret3⟩; obtain ⟨A3, c3, rfl, hat3, hs3⟩ := RowsAt.of hret3; clear hret3)
    | (go_at_call 13; refine (same_ok _ (linesL (s.take 300)) A2 A3 c2 c3 (hat2.below hs3) hat3 (by omega) (fun i r hi => Nat.le_trans (HB.out i r hi) (by omega))).mono ?_; rintro e w4 ⟨rfl, hs4⟩))
  go_ret
  refine ⟨rfl, ?_⟩
  have z1 := hs1.size
  have z2 := hs2.size
  have z3 := hs3.size
  exact ((hs1.trans (hs2.mono z1)).trans (hs3.mono (by omega))).trans (hs4.mono (by omega))
end Go.Proofs.YtccnogdfnikioaaDoor
