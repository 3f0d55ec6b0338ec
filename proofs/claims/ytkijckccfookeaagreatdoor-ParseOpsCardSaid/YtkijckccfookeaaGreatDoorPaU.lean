/- parse: class. -/
import Derived.Test.YtkijckccfookeaaGreatDoorL22
import Derived.Test.YtkijckccfookeaaGreatDoorL08
namespace Go.Proofs.YtkijckccfookeaaGreatDoor
open Go.RowKit
attribute [-go_sem] Builtin.append_

theorem goT (op : Bool) (row : List P3) (told : List (List P3)) (ws : List P3) : setsGoT op (txts row) (told.map txts) (txts ws) = (setsGo op row told ws).map (List.map txts) := by
  induction ws generalizing op row told with
  | nil =>
    show setsGoT op (txts row) (told.map txts) [] = _
    rw [setsGoT, setsGo]
    cases op <;> rfl
  | cons w r ih =>
    show setsGoT op (txts row) (told.map txts) (w.2.2 :: txts r) = _
    rw [setsGoT, setsGo]
    by_cases h1 : w.2.2 = [91]
    · rw [if_pos h1, if_pos h1]
      cases op
      · exact ih true [] told
      · rfl
    · rw [if_neg h1, if_neg h1]
      by_cases h2 : w.2.2 = [93]
      · rw [if_pos h2, if_pos h2]
        cases op
        · rfl
        · have := ih false [] (told ++ [row])
          rw [List.map_append] at this
          exact this
      · rw [if_neg h2, if_neg h2]
        cases op
        · have := ih false [] (told ++ [[w]])
          rw [List.map_append] at this
          exact this
        · have := ih true (row ++ [w]) told
          rw [show txts (row ++ [w]) = txts row ++ [w.2.2] by simp [txts]] at this
          exact this
theorem setsT_txts (ws : List P3) : setsT (txts ws) = (setsL ws).map (List.map txts) := goT false [] [] ws
theorem sets_lens (op : Bool) (row : List P3) (told : List (List P3)) (ws : List P3) (rows : List (List P3)) (h : setsGo op row told ws = some rows) : rows.length ≤ told.length + ws.length ∧ ∀ r ∈ rows, r ∈ told ∨ r.length ≤ row.length + ws.length := by
  induction ws generalizing op row told with
  | nil =>
    rw [setsGo] at h
    cases op
    · cases h
      exact ⟨by simp, fun r hr => .inl hr⟩
    · cases h
  | cons w r ih =>
    rw [setsGo] at h
    by_cases h1 : w.2.2 = [91]
    · rw [if_pos h1] at h
      cases op
      · obtain ⟨g1, g2⟩ := ih true [] told h
        refine ⟨by simp only [List.length_cons]; omega, fun x hx => (g2 x hx).imp id fun g => ?_⟩
        simp only [List.length_cons, List.length_nil] at g ⊢
        omega
      · cases h
    · rw [if_neg h1] at h
      by_cases h2 : w.2.2 = [93]
      · rw [if_pos h2] at h
        cases op
        · cases h
        · obtain ⟨g1, g2⟩ := ih false [] (told ++ [row]) h
          refine ⟨by simp only [List.length_cons, List.length_append, List.length_nil] at g1 ⊢; omega, fun x hx => ?_⟩
          rcases g2 x hx with g | g
          · rcases List.mem_append.1 g with g | g
            · exact .inl g
            · simp only [List.mem_singleton] at g
              subst g
              exact .inr (by omega)
          · exact .inr (by simp only [List.length_cons, List.length_nil] at g ⊢; omega)
      · rw [if_neg h2] at h
        cases op
        · obtain ⟨g1, g2⟩ := ih false [] (told ++ [[w]]) h
          refine ⟨by simp only [List.length_cons, List.length_append, List.length_nil] at g1 ⊢; omega, fun x hx => ?_⟩
          rcases g2 x hx with g | g
          · rcases List.mem_append.1 g with g | g
            · exact .inl g
            · simp only [List.mem_singleton] at g
              subst g
              exact .inr (by simp only [List.length_cons, List.length_nil]; omega)
          · exact .inr (by simp only [List.length_cons, List.length_nil] at g ⊢; omega)
        · obtain ⟨g1, g2⟩ := ih true (row ++ [w]) told h
          refine ⟨by simp only [List.length_cons]; omega, fun x hx => (g2 x hx).imp id fun g => ?_⟩
          simp only [List.length_cons, List.length_append, List.length_nil] at g ⊢
          omega
theorem setsL_lens {ws : List P3} {rows : List (List P3)} (h : setsL ws = some rows) : rows.length ≤ ws.length ∧ ∀ r ∈ rows, r.length ≤ ws.length := by
  obtain ⟨h1, h2⟩ := sets_lens _ _ _ _ _ h
  exact ⟨by simpa using h1, fun r hr => (h2 r hr).elim (fun g => by simp at g) (fun g => by simpa using g)⟩
/-- an error ahead stays -/
theorem run_er (gl : Gl) (cls : List (B × List Int)) (er : Int) (he : er ≠ 0) (acc : List Int) (l : List B) : (setRun gl cls er acc l).1 = er := by
  cases l with
  | nil => rfl
  | cons t r =>
    have h : (setWd gl cls er acc t).1 = er := by
      unfold setWd
      split
      · split
        · rfl
        · show eC er 23 = er
          unfold eC
          rw [if_neg he]
      · show eGl gl er t = er
        unfold eGl
        rw [if_neg (by intro h; exact he h.1)]
    rw [setRun, if_pos (by rw [h]; exact he)]
    exact h
theorem set_wd (gl : Gl) (cls : List (B × List Int)) (acc : List Int) (t : B) : (∃ e, setOne gl cls t = .error e ∧ e ≠ 0 ∧ (setWd gl cls 0 acc t).1 = e) ∨ (∃ c, setOne gl cls t = .ok c ∧ setWd gl cls 0 acc t = (0, acc ++ c)) := by
  unfold setWd
  rcases at_cases t with ⟨r, h1, h2, h3⟩ | ⟨h1, h2, h3⟩
  · rw [h3, h2]
    subst h1
    show (∃ e, setOne gl cls (64 :: r) = _ ∧ _) ∨ _
    have hs : setOne gl cls (64 :: r) = match cls.lookup r with | some c => .ok c | none => .error 23 := rfl
    rw [hs]
    cases cls.lookup r with
    | none => exact .inl ⟨23, rfl, by decide, rfl⟩
    | some c => exact .inr ⟨c, rfl, rfl⟩
  · rw [h2, h1]
    have hs : setOne gl cls t = match gl.lookup t with | some n => .ok [(n : Int)] | none => .error 23 := by
      unfold setOne
      split
      · rename_i r
        exact absurd rfl (h3 r)
      · rfl
    rw [hs]
    simp only [Bool.false_eq_true, if_false]
    unfold eGl vGl
    cases gl.lookup t with
    | none => exact .inl ⟨23, rfl, by decide, rfl⟩
    | some n => exact .inr ⟨[(n : Int)], rfl, rfl⟩
theorem run_setGo (gl : Gl) (cls : List (B × List Int)) (acc : List Int) (l : List B) (ha : acc.length ≤ 1000) : (∃ e, setGo gl cls acc l = .error e ∧ e ≠ 0 ∧ (setRun gl cls 0 acc l).1 = e) ∨ (∃ g, setGo gl cls acc l = .ok g ∧ setRun gl cls 0 acc l = (0, g) ∧ g.length ≤ 1000) := by
  induction l generalizing acc with
  | nil => exact .inr ⟨acc, rfl, rfl, ha⟩
  | cons t r ih =>
    rcases set_wd gl cls acc t with ⟨e, h1, h2, h3⟩ | ⟨c, h1, h2⟩
    · refine .inl ⟨e, by rw [setGo, h1], h2, ?_⟩
      rw [setRun, if_pos (by rw [h3]; exact h2)]
      exact h3
    · rw [setGo, h1]
      by_cases h4 : 1000 < (acc ++ c).length
      · refine .inl ⟨2, by simp only [if_pos h4], by decide, ?_⟩
        rw [run_many h2 h4]
      · simp only [if_neg h4]
        rw [run_on h2 (by omega)]
        exact ih (acc ++ c) (by omega)
section
variable {w w' : World} {Bd p gm cm : Nat} {gl : Gl} {s : PS} {rv : Rows} {K : Nat}
theorem PSt.newClass (h : PSt w Bd p gm cm gl s rv K) {t : B} {l : List Int} {A : Option Addr} {c : Nat} (hsl : Sl IntR 1 w (Fz w rv) A l) (hl : l.length ≤ 2000) (hn : s.cls.lookup t = none) {f : B → Option Value}
    (hf : ∀ t, (s.cls.lookup t = none ∧ f t = none) ∨ ∃ l A c, s.cls.lookup t = some l ∧ f t = some (.slice A l.length c) ∧ Sl IntR 1 w (Fz w rv) A l ∧ l.length ≤ 2000)
    (hm : MapF embB w' cm (fun t' => if t' = t then some (.slice A l.length c) else f t')) (hg : w.grownBy w' (some cm)) :
    PSt w' Bd p gm cm gl { s with cls := s.cls ++ [(t, l)] } rv K ∧ KQ cm w w' ∧ Below Bd w w' := by
  obtain ⟨f0, f1, f2⟩ := h.cls
  have hr' : ∀ g, some cm = some g → ∀ t cs, Bk w g t cs → dataT t = false := fun g e t' cs' hb => by
    injection e with e
    subst e
    exact (f1.not_bk hb).elim
  have ht : Tr w rv w' rv := Tr.other hg hr'
  refine ⟨{ par := h.par.keep (hg.block p h.par.lt fun e => ?_), live := h.live.other hg hr', fnt := h.fnt.tr ht, gmp := h.gmp.grown hg fun e => ?_, glI := h.glI, cls := ⟨_, hm, fun x => ?_⟩, few := h.few, low := h.low }, KQ.row hg fun g e => ?_, (Below.refl Bd w).grown hg h.size (fun g e => ?_)⟩
  · injection e with e
    subst e
    exact f1.not_bk h.par
  · injection e with e
    exact h.low.2.2.2 e
  · show ((s.cls ++ [(t, l)]).lookup x = none ∧ _) ∨ _
    rw [List.lookup_append]
    by_cases hx : x = t
    · subst hx
      refine .inr ⟨l, A, c, ?_, if_pos rfl, ht.sl IntR.ok hsl, hl⟩
      rw [hn]
      simp
    · rw [if_neg hx]
      have hxt : (x == t) = false := by simpa using hx
      have h0 : ([(t, l)] : List (B × List Int)).lookup x = none := by simp [List.lookup, hxt]
      rw [h0, Option.or_none]
      rcases hf x with g | ⟨l', A', c', e1, e2, e3, e4⟩
      · exact .inl g
      · exact .inr ⟨l', A', c', e1, e2, ht.sl IntR.ok e3, e4⟩
  · injection e with e
    subst e
    obtain ⟨es, ck, hh⟩ := f1.isMap
    exact ⟨_, hh, fun hk => hk rfl⟩
  · injection e with e
    subst e
    exact h.low.2.2.1
end
theorem rClass_none (gl : Gl) (s : PS) (t1 : B) (r : List B) (h : ∀ row, setsT r ≠ some [row]) : rClass gl s (t1 :: r) = .error 22 := by
  show (match setsT r with | some [row] => _ | _ => _) = _
  split
  · rename_i row he
    exact absurd he (h row)
  · rfl
theorem rClass_some (gl : Gl) (s : PS) (t1 : B) (r row : List B) (h : setsT r = some [row]) : rClass gl s (t1 :: r) = if eName 0 t1 ≠ 0 then .error (eName 0 t1) else match setGo gl s.cls [] row with
      | .error e => .error e
      | .ok g => if (s.cls.lookup t1).isSome then .error 24 else .ok { s with cls := s.cls ++ [(t1, g)] } := by
  show (match setsT r with | some [row] => _ | _ => _) = _
  rw [h]
  rfl
/-- what the class's reading tells -/
theorem rClass_err (gl : Gl) (s : PS) (t1 : B) (r row : List B) (h : setsT r = some [row]) (he : (setRun gl s.cls (eName 0 t1) [] row).1 ≠ 0) : rClass gl s (t1 :: r) = .error (setRun gl s.cls (eName 0 t1) [] row).1 := by
  rw [rClass_some gl s t1 r row h]
  by_cases h0 : eName 0 t1 = 0
  · rw [h0] at he ⊢
    rw [if_neg (by simp)]
    rcases run_setGo gl s.cls [] row (by simp) with ⟨e, h1, h2, h3⟩ | ⟨g, h1, h2, h3⟩
    · rw [h1, h3]
    · rw [h2] at he
      exact absurd rfl he
  · rw [if_pos h0, run_er _ _ _ h0]
theorem rClass_ok (gl : Gl) (s : PS) (t1 : B) (r row : List B) (h : setsT r = some [row]) (he : (setRun gl s.cls (eName 0 t1) [] row).1 = 0) : rClass gl s (t1 :: r) = (if (s.cls.lookup t1).isSome then .error 24 else .ok { s with cls := s.cls ++ [(t1, (setRun gl s.cls (eName 0 t1) [] row).2)] }) ∧ (setRun gl s.cls (eName 0 t1) [] row).2.length ≤ 1000 := by
  rw [rClass_some gl s t1 r row h]
  by_cases h0 : eName 0 t1 = 0
  · rw [h0] at he ⊢
    rw [if_neg (by simp)]
    rcases run_setGo gl s.cls [] row (by simp) with ⟨e, h1, h2, h3⟩ | ⟨g, h1, h2, h3⟩
    · exact absurd (h3.symm.trans he) h2
    · rw [h1, h2]
      exact ⟨rfl, h3⟩
  · rw [run_er _ _ _ h0] at he
    exact absurd he h0
theorem run_i64 (gl : Gl) (cls : List (B × List Int)) (hg : ∀ t n, gl.lookup t = some n → n ≤ 1000000000) (hc : ∀ t l, cls.lookup t = some l → ∀ x ∈ l, I64 x) (er : Int) (acc : List Int) (ha : ∀ x ∈ acc, I64 x) (l : List B) : ∀ x ∈ (setRun gl cls er acc l).2, I64 x := by
  have hw : ∀ er acc t, (∀ x ∈ acc, I64 x) → ∀ x ∈ (setWd gl cls er acc t).2, I64 x := by
    intro er acc t ha
    unfold setWd
    split
    · split
      · rename_i c hcl
        intro x hx
        rcases List.mem_append.1 hx with h | h
        · exact ha x h
        · exact hc _ _ hcl x h
      · exact ha
    · intro x hx
      rcases List.mem_append.1 hx with h | h
      · exact ha x h
      · simp only [List.mem_singleton] at h
        subst h
        exact vGl_i64 hg t
  induction l generalizing er acc with
  | nil => exact ha
  | cons t r ih =>
    rw [setRun]
    split
    · exact hw er acc t ha
    · split
      · exact hw er acc t ha
      · exact ih _ _ (hw er acc t ha)
theorem Sl.ints {w : World} {S : Bs} {A : Option Addr} {l : List Int} (h : Sl IntR 1 w S A l) : ∀ x ∈ l, I64 x := by
  intro x hx
  obtain ⟨k, hk⟩ := List.mem_iff_getElem?.1 hx
  obtain ⟨b, o, x', _, _, hx', _, hi⟩ := h.int (List.getElem?_eq_some_iff.1 hk).1
  have := hx'.out
  rw [hk] at this
  cases this
  exact hi
theorem PSt.clsI {w : World} {Bd p gm cm : Nat} {gl : Gl} {s : PS} {rv : Rows} {K : Nat} (h : PSt w Bd p gm cm gl s rv K) : ∀ t l, s.cls.lookup t = some l → ∀ x ∈ l, I64 x := by
  intro t l hl
  obtain ⟨f, h1, h2⟩ := h.cls
  rcases h2 t with ⟨g, _⟩ | ⟨l', A, c, e1, e2, e3, e4⟩
  · rw [g] at hl; cases hl
  · rw [e1] at hl
    cases hl
    exact e3.ints
end Go.Proofs.YtkijckccfookeaaGreatDoor
