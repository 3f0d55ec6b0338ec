/- Plain Lean: words written with blanks between are the words of the line. -/
import Derived.Test.YtccnogdfnikioaaDoorPureNotes
namespace Go.Proofs.YtccnogdfnikioaaDoor
open Go.RowKit

theorem run_app (a b : B) : run (a ++ b) = b.foldl step (run a) := by simp [run]
theorem run_blanks (l : B) (n : Nat) : (run (l ++ List.replicate (n + 1) 32)).told = (run l).all ∧ (run (l ++ List.replicate (n + 1) 32)).cur = [] := by
  induction n with
  | zero =>
    have e : l ++ List.replicate (0 + 1) 32 = l ++ [32] := rfl
    rw [e, run_snoc, step, if_pos (by decide)]
    exact ⟨rfl, rfl⟩
  | succ n ih =>
    rw [List.replicate_succ', ← List.append_assoc, run_snoc, step, if_pos (by decide)]
    refine ⟨?_, rfl⟩
    show (run (l ++ List.replicate (n + 1) 32)).all = _
    rw [St.all, St.pend, if_pos ih.2, List.append_nil, ih.1]
theorem wordC_nb {c : UInt8} (h : wordC c = true) : blank c = false ∧ c ≠ 35 ∧ c ≠ 10 := by
  have h2 := (wordC_iff c).1 h
  refine ⟨?_, fun e => by subst e; exact h2.2.2.2 rfl, fun e => by subst e; exact h2.2.2.1 rfl⟩
  rw [← Bool.not_eq_true]
  intro hb
  simp only [blank, Bool.or_eq_true, beq_iff_eq] at hb
  rcases hb with rfl | rfl
  · exact h2.1 rfl
  · exact h2.2.1 rfl
theorem run_word (l T : B) (h : (run l).cur = []) (hT : T ≠ []) (hw : ∀ c ∈ T, wordC c = true) : (run (l ++ T)).all = (run l).told ++ [(l.length, T)] := by
  cases T with
  | nil => exact absurd rfl hT
  | cons c r =>
    have hc := wordC_nb (hw c (by simp))
    rw [run_app, List.foldl_cons, step_wide _ r (by unfold step; simp [hc.1]) (fun d hd => (wordC_nb (hw d (by simp [hd]))).1)]
    have ha := run_at l
    unfold step
    simp [hc.1, h, ha, St.all, St.pend]
theorem one_app (cur T : B) (n : Nat) (hc : ∀ d ∈ cur, d ≠ 35) (hT : T ≠ []) (hw : ∀ c ∈ T, wordC c = true) : one (cur ++ List.replicate (n + 1) 32 ++ T) = one cur ++ [((cur ++ List.replicate (n + 1) 32).length, T)] := by
  obtain ⟨h1, h2⟩ := run_blanks cur n
  rw [one, one, code_self _ (fun d hd => by
    rw [List.mem_append, List.mem_append] at hd
    rcases hd with (hd | hd) | hd
    · exact hc d hd
    · rw [(List.mem_replicate.1 hd).2]; decide
    · exact (wordC_nb (hw d hd)).2.1), code_self _ hc, run_word _ T h2 hT hw, h1]
theorem no35_app (cur T : B) (n : Nat) (hc : ∀ d ∈ cur, d ≠ 35) (hw : ∀ c ∈ T, wordC c = true) : ∀ d ∈ cur ++ List.replicate (n + 1) 32 ++ T, d ≠ 35 := by
  intro d hd
  rw [List.mem_append, List.mem_append] at hd
  rcases hd with (hd | hd) | hd
  · exact hc d hd
  · rw [(List.mem_replicate.1 hd).2]; decide
  · exact (wordC_nb (hw d hd)).2.1
theorem no10_app (T : B) (n : Nat) (hw : ∀ c ∈ T, wordC c = true) : ∀ d ∈ List.replicate (n + 1) 32 ++ T, d ≠ 10 := by
  intro d hd
  rw [List.mem_append] at hd
  rcases hd with hd | hd
  · rw [(List.mem_replicate.1 hd).2]; decide
  · exact (wordC_nb (hw d hd)).2.2
/-- what has been written: whole lines, and one that is open -/
def Writ (s : B) (done : List B) (cur : B) (fr : Nat) : Prop := pcs s = done ++ [cur] ∧ fr + cur.length = s.length ∧ ∀ d ∈ cur, d ≠ 35
theorem writ_nil : Writ [] [] [] 0 := ⟨rfl, rfl, by simp⟩
theorem writ_word {s : B} {done : List B} {cur : B} {fr : Nat} (h : Writ s done cur fr) (T : B) (n : Nat) (hw : ∀ c ∈ T, wordC c = true) : Writ (s ++ List.replicate (n + 1) 32 ++ T) done (cur ++ List.replicate (n + 1) 32 ++ T) fr := by
  refine ⟨?_, ?_, no35_app cur T n h.2.2 hw⟩
  · have := pcs_snoc h.1 (x := List.replicate (n + 1) 32 ++ T) (no10_app T n hw)
    simpa [List.append_assoc] using this
  · have := h.2.1
    simp
    omega
theorem writ_line {s : B} {done : List B} {cur : B} {fr : Nat} (h : Writ s done cur fr) : Writ (s ++ [10]) (done ++ [cur]) [] (s ++ [10]).length := ⟨pcs_nl h.1, by simp, by simp⟩
theorem writ_lines {s : B} {done : List B} {cur : B} {fr : Nat} (h : Writ s done cur fr) : linesL s = linesFrom 1 done ++ if one cur = [] then [] else [num (done.length + 1) (one cur)] := by
  rw [linesL, h.1, linesFrom_snoc]
end Go.Proofs.YtccnogdfnikioaaDoor
