/- Plain Lean: lines joined; blanks and comments change no texts. -/
import Derived.Test.YtccnogdfnikioaaDoorTame
namespace Go.Proofs.YtccnogdfnikioaaDoor
open Go.RowKit

theorem pcs_append (a b : B) : ∀ (D : List B) (q p : B) (ps : List B), pcs a = D ++ [q] → pcs b = p :: ps → pcs (a ++ b) = D ++ (q ++ p) :: ps := by
  induction a with
  | nil =>
    intro D q p ps h hb
    rw [pcs] at h
    cases D with
    | nil =>
      simp at h
      subst h
      simpa using hb
    | cons d D => simp at h
  | cons c r ih =>
    intro D q p ps h hb
    rw [pcs] at h
    rw [List.cons_append, pcs]
    split at h
    · rename_i hc
      rw [if_pos hc]
      cases D with
      | nil =>
        simp at h
        exact absurd h.2 (pcs_ne r)
      | cons d D =>
        simp at h
        obtain ⟨rfl, h⟩ := h
        rw [ih D q p ps h hb]
        rfl
    · rename_i hc
      rw [if_neg hc]
      cases hr : pcs r with
      | nil => exact absurd hr (pcs_ne r)
      | cons p0 ps0 =>
        rw [hr] at h
        dsimp only at h
        cases D with
        | nil =>
          simp at h
          obtain ⟨rfl, rfl⟩ := h
          rw [ih [] p0 p ps hr hb]
          rfl
        | cons d D =>
          simp at h
          obtain ⟨rfl, rfl⟩ := h
          rw [ih (p0 :: D) q p ps (by rw [hr]; rfl) hb]
          rfl
theorem pcs_snoc {a x : B} {D : List B} {q : B} (h : pcs a = D ++ [q]) (hx : ∀ c ∈ x, c ≠ 10) : pcs (a ++ x) = D ++ [q ++ x] := pcs_append a x D q x [] h (pcs_none x hx)
theorem pcs_nl {a : B} {D : List B} {q : B} (h : pcs a = D ++ [q]) : pcs (a ++ [10]) = (D ++ [q]) ++ [[]] := by
  have := pcs_append a [10] D q [] [[]] h (by simp [pcs])
  simpa using this
/-- the texts of a line's words -/
def wt (p : B) : List B := (one p).map (·.2)
def txtsOf (ps : List B) : List (List B) := (ps.map wt).filter (fun r => !r.isEmpty)
theorem txtsOf_app (a b : List B) : txtsOf (a ++ b) = txtsOf a ++ txtsOf b := by simp [txtsOf]
theorem txts_lines (n : Nat) (ps : List B) : txts (linesFrom n ps) = txtsOf ps := by
  induction ps generalizing n with
  | nil => rfl
  | cons p ps ih =>
    rw [linesFrom]
    have e : txtsOf (p :: ps) = (if one p = [] then [] else [wt p]) ++ txtsOf ps := by
      rw [txtsOf, List.map_cons, List.filter_cons]
      by_cases h : one p = []
      · simp [wt, h, txtsOf]
      · simp [wt, h, txtsOf]
    rw [e, ← ih (n + 1)]
    by_cases h : one p = []
    · simp [h]
    · simp [h, txts, num, wt]
theorem fold_like (l : B) : ∀ (σ τ : St), σ.cur = τ.cur → σ.told.map (·.2) = τ.told.map (·.2) → ((l.foldl step σ).all).map (·.2) = ((l.foldl step τ).all).map (·.2) := by
  induction l with
  | nil =>
    intro σ τ h1 h2
    simp only [List.foldl_nil, St.all, St.pend, List.map_append, h2, h1]
    by_cases h : τ.cur = [] <;> simp [h]
  | cons c r ih =>
    intro σ τ h1 h2
    rw [List.foldl_cons, List.foldl_cons]
    apply ih
    · unfold step
      split
      · rfl
      · simp [h1]
    · unfold step
      split
      · simp only [St.all, St.pend, List.map_append, h2, h1]
        by_cases h : τ.cur = [] <;> simp [h]
      · exact h2
theorem lead_one (b : UInt8) (l : B) (hb : blank b = true) : ((run (b :: l)).all).map (·.2) = ((run l).all).map (·.2) := by
  rw [run, run, List.foldl_cons]
  apply fold_like
  · simp [step, hb, st0]
  · simp [step, hb, st0, St.all, St.pend]
theorem code_cons (c : UInt8) (l : B) (h : c ≠ 35) : code (c :: l) = c :: code l := by
  rw [code, List.takeWhile_cons, if_pos (by simpa using h)]
  rfl
theorem code_self (q : B) (h : ∀ d ∈ q, d ≠ 35) : code q = q := by
  induction q with
  | nil => rfl
  | cons d q ih => rw [code_cons _ _ (h d (by simp)), ih (fun e he => h e (by simp [he]))]
theorem blank_ne {b : UInt8} (h : blank b = true) : b ≠ 35 := by
  rintro rfl
  revert h
  decide
theorem wt_lead (bl p : B) (h : ∀ b ∈ bl, blank b = true) : wt (bl ++ p) = wt p := by
  induction bl with
  | nil => rfl
  | cons b bl ih =>
    have hb := h b (by simp)
    rw [List.cons_append, ← ih (fun c hc => h c (by simp [hc]))]
    rw [wt, wt, one, one, code_cons _ _ (blank_ne hb), lead_one b _ hb]
theorem all_snoc (l : B) (b : UInt8) (hb : blank b = true) : (run (l ++ [b])).all = (run l).all := by
  rw [run_snoc, step, if_pos hb, St.all, St.pend, if_pos rfl, List.append_nil]
theorem wt_tail (q c : B) : wt (q ++ 32 :: 9 :: 35 :: c) = wt q := by
  by_cases h : ∀ d ∈ q, d ≠ 35
  · have e1 : code (q ++ 32 :: 9 :: 35 :: c) = (q ++ [32]) ++ [9] := by
      rw [code, List.takeWhile_append_of_pos (by simpa using h)]
      simp
    have e2 : code q = q := code_self q h
    rw [wt, wt, one, one, e1, e2, all_snoc _ 9 (by decide), all_snoc _ 32 (by decide)]
  · have e : ∀ x : B, code (q ++ x) = code q := by
      intro x
      clear c
      induction q with
      | nil => exact absurd (by simp) h
      | cons d q ih =>
        by_cases hd : d = 35
        · subst hd
          simp [code]
        · rw [List.cons_append, code_cons _ _ hd, code_cons _ _ hd, ih (fun hq => h (fun e he => by
            rcases List.mem_cons.1 he with rfl | he
            · exact hd
            · exact hq e he))]
    rw [wt, wt, one, one, e]
/-- lines written anew: with blanks ahead, and, some of them, a comment and two lines more behind -/
inductive Noted (c : B) : List B → B → Prop
  | nil : Noted c [] []
  | plain {ps : List B} {out : B} (bl p : B) : Noted c ps out → (∀ b ∈ bl, b = 32) → Noted c (ps ++ [p]) (out ++ bl ++ p ++ [10])
  | note {ps : List B} {out : B} (bl p : B) : Noted c ps out → (∀ b ∈ bl, b = 32) → Noted c (ps ++ [p]) (out ++ bl ++ p ++ [32, 9, 35] ++ c ++ [10, 10, 32, 32, 35] ++ [10])
theorem noted_pcs (c : B) (hc : ∀ d ∈ c, d ≠ 10) (ps : List B) (out : B) (h : Noted c ps out) (hp : ∀ p ∈ ps, ∀ d ∈ p, d ≠ 10) : ∃ D, pcs out = D ++ [[]] ∧ txtsOf D = txtsOf ps := by
  induction h with
  | nil => exact ⟨[], rfl, rfl⟩
  | @plain ps out bl p h hbl ih =>
    obtain ⟨D, h1, h2⟩ := ih (fun q hq => hp q (by simp [hq]))
    have a1 := pcs_snoc h1 (x := bl) (fun d hd => by rw [hbl d hd]; decide)
    have a2 := pcs_snoc a1 (x := p) (hp p (by simp))
    have a3 := pcs_nl a2
    refine ⟨_, a3, ?_⟩
    rw [txtsOf_app, txtsOf_app, h2]
    congr 1
    simp only [List.nil_append, txtsOf, List.map_cons, List.map_nil]
    rw [wt_lead bl p (fun b hb => by rw [hbl b hb]; decide)]
  | @note ps out bl p h hbl ih =>
    obtain ⟨D, h1, h2⟩ := ih (fun q hq => hp q (by simp [hq]))
    have a1 := pcs_snoc h1 (x := bl) (fun d hd => by rw [hbl d hd]; decide)
    have a2 := pcs_snoc a1 (x := p) (hp p (by simp))
    have a3 := pcs_snoc a2 (x := [32, 9, 35]) (fun d hd => by
      simp at hd
      rcases hd with rfl | rfl | rfl <;> decide)
    have a4 := pcs_snoc a3 (x := c) hc
    have a5 := pcs_nl a4
    have a6 := pcs_nl a5
    have a7 := pcs_snoc a6 (x := [32, 32, 35]) (fun d hd => by
      simp at hd
      rcases hd with rfl | rfl <;> decide)
    have a8 := pcs_nl a7
    have e : out ++ bl ++ p ++ [32, 9, 35] ++ c ++ [10, 10, 32, 32, 35] ++ [10] = out ++ bl ++ p ++ [32, 9, 35] ++ c ++ [10] ++ [10] ++ [32, 32, 35] ++ [10] := by simp
    rw [e]
    refine ⟨_, a8, ?_⟩
    have e1 : wt ([] ++ bl ++ p ++ [32, 9, 35] ++ c) = wt p := by
      have := wt_tail (bl ++ p) c
      rw [wt_lead bl p (fun b hb => by rw [hbl b hb]; decide)] at this
      rw [← this]
      simp
    have t1 : txtsOf [[] ++ bl ++ p ++ [32, 9, 35] ++ c] = txtsOf [p] := by simp only [txtsOf, List.map_cons, List.map_nil, e1]
    have t2 : txtsOf [[]] = [] := by decide
    have t3 : txtsOf [[] ++ [32, 32, 35]] = [] := by decide
    rw [txtsOf_app, txtsOf_app, txtsOf_app, txtsOf_app, h2, t1, t2, t3, List.append_nil, List.append_nil]
/-- what a source's pieces have: no byte 10 -/
theorem pcs_no (s : B) : ∀ p ∈ pcs s, ∀ d ∈ p, d ≠ 10 := by
  induction s with
  | nil => simp [pcs]
  | cons c r ih =>
    intro p hp d hd
    rw [pcs] at hp
    split at hp
    · rcases List.mem_cons.1 hp with rfl | hp
      · simp at hd
      · exact ih p hp d hd
    · rename_i hc
      split at hp
      · rename_i q qs hq
        rw [hq] at ih
        rcases List.mem_cons.1 hp with rfl | hp
        · rcases List.mem_cons.1 hd with rfl | hd
          · exact hc
          · exact ih q (by simp) d hd
        · exact ih p (by simp [hp]) d hd
      · simp at hp
        subst hp
        simp at hd
        subst hd
        exact hc
/-- texts as they were -/
theorem noted_txts (s c out : B) (hc : ∀ d ∈ c, d ≠ 10) (h : Noted c (pcs s) out) : txts (linesL s) = txts (linesL out) := by
  obtain ⟨D, h1, h2⟩ := noted_pcs c hc _ _ h (pcs_no s)
  rw [linesL, linesL, txts_lines, txts_lines, h1, txtsOf_app, h2]
  have : txtsOf [[]] = [] := by decide
  rw [this, List.append_nil]
end Go.Proofs.YtccnogdfnikioaaDoor
