/- Plain Lean: the lines of a source as texts: comments, blanks and empty lines change nothing but places; what stands behind plays no part. -/
import Derived.Test.YtkijckccfookeaaGreatDoorM09
namespace Go.Proofs.YtkijckccfookeaaGreatDoor
open Go.RowKit

/-- where the reading of a line's texts stands -/
def tall (σ : B × List B) : List B := σ.2 ++ if σ.1 = [] then [] else [σ.1]
def tstep (σ : B × List B) (c : UInt8) : B × List B := if blank c then ([], tall σ) else (σ.1 ++ [c], σ.2)
def trun (l : B) : B × List B := l.foldl tstep ([], [])
def texts (l : B) : List B := tall (trun (code l))
theorem texts_one (l : B) : texts l = (one l).map (·.2) := by
  have key : ∀ (σ : St) (m : B), m.foldl tstep (σ.cur, σ.told.map (·.2)) = ((m.foldl step σ).cur, (m.foldl step σ).told.map (·.2)) := by
    intro σ m
    induction m generalizing σ with
    | nil => rfl
    | cons c r ih =>
      rw [List.foldl_cons, List.foldl_cons, ← ih]
      congr 1
      unfold tstep step tall St.all St.pend
      by_cases hb : blank c = true
      · simp only [hb, if_true]
        by_cases hc : σ.cur = [] <;> simp [hc]
      · simp [hb]
  have := key st0 (code l)
  unfold texts trun one run
  simp only [st0, List.map_nil] at this
  rw [this]
  unfold tall St.all St.pend
  by_cases hc : (List.foldl step st0 (code l)).cur = [] <;> simp [hc, st0] <;> simp_all [st0]
/-- pieces' lines that have words, numbered -/
def tl : Nat → List B → List (Int × List B)
  | _, [] => []
  | n, p :: ps => (if texts p = [] then [] else [((n : Int), texts p)]) ++ tl (n + 1) ps
theorem tl_app (n : Nat) (a b : List B) : tl n (a ++ b) = tl n a ++ tl (n + a.length) b := by
  induction a generalizing n with
  | nil => simp [tl]
  | cons p ps ih =>
    simp only [List.cons_append, tl, ih, List.length_cons, List.append_assoc]
    rw [show n + 1 + ps.length = n + (ps.length + 1) by omega]
theorem linesT_tl (src : B) : linesT src = tl 1 (pcs src) := by
  unfold linesT linesL
  generalize 1 = n
  induction pcs src generalizing n with
  | nil => rfl
  | cons p ps ih =>
    rw [linesFrom, List.map_append, ih, tl, texts_one]
    congr 1
    by_cases h : one p = []
    · rw [if_pos h, h]
      simp
    · rw [if_neg h, if_neg (by simpa using h)]
      cases ho : one p with
      | nil => exact absurd ho h
      | cons a r => simp [num]
/-- shifted lines -/
def shift (k : Int) (L : List (Int × List B)) : List (Int × List B) := L.map (fun l => (l.1 + k, l.2))
theorem tl_shift (n k : Nat) (ps : List B) : tl (n + k) ps = shift k (tl n ps) := by
  induction ps generalizing n with
  | nil => rfl
  | cons p ps ih =>
    have := ih (n + 1)
    rw [show n + 1 + k = n + k + 1 by omega] at this
    unfold shift at this ⊢
    rw [tl, tl, this, List.map_append]
    congr 1
    split <;> simp
theorem shift_snd (k : Int) (L : List (Int × List B)) : (shift k L).map (·.2) = L.map (·.2) := by simp [shift]
theorem stmts_shift (gl : Gl) (s : PS) (k : Int) (L : List (Int × List B)) : stmts gl s (shift k L) = (match stmts gl s L with | .ok s' => .ok s' | .error (n, e) => .error (n + k, e)) := by
  induction L generalizing s with
  | nil => rfl
  | cons x L ih =>
    obtain ⟨n, l⟩ := x
    have e : shift k ((n, l) :: L) = (n + k, l) :: shift k L := rfl
    rw [e, stmts, stmts]
    cases stmt gl s l with
    | error e => rfl
    | ok s' => exact ih s'
/-- the same texts in the same lines, k lines on: the same answer -/
theorem parse_shift (a b : B) (k : Nat) (h : linesT b = shift k (linesT a)) : parseL b = (match parseL a with | .ok f => .ok f | .error (n, e) => .error (n + k, e)) := by
  unfold parseL
  rw [h, shift_snd, stmts_shift]
  cases stmts (gnames 0 ((linesT a).map (·.2))) ps0 (linesT a) with
  | ok s => rfl
  | error x => rfl
/-- each blank 32 three of them -/
def ex (l : B) : B := l.flatMap (fun c => if c = 32 then [32, 9, 32] else [c])
theorem tall_blank (σ : B × List B) (c : UInt8) (h : blank c = true) : tstep σ c = ([], tall σ) := by rw [tstep, if_pos h]
theorem tall_again (t : List B) (c : UInt8) (h : blank c = true) : tstep ([], t) c = ([], t) := by rw [tstep, if_pos h]; simp [tall]
theorem trun_ex (l : B) (σ : B × List B) : (ex l).foldl tstep σ = l.foldl tstep σ := by
  induction l generalizing σ with
  | nil => rfl
  | cons c r ih =>
    have e : ex (c :: r) = (if c = 32 then [32, 9, 32] else [c]) ++ ex r := by simp [ex]
    rw [e, List.foldl_append, ih, List.foldl_cons]
    congr 1
    split
    · rename_i hc
      subst hc
      rw [List.foldl_cons, List.foldl_cons, List.foldl_cons, List.foldl_nil, tall_blank σ 32 (by decide), tall_again _ 9 (by decide), tall_again _ 32 (by decide)]
    · rfl
theorem code_ex (l m : B) : code (ex l ++ m) = if 35 ∈ l then ex (code l) else ex l ++ code m := by
  induction l with
  | nil => simp [ex]
  | cons c r ih =>
    have e : ex (c :: r) = (if c = 32 then [32, 9, 32] else [c]) ++ ex r := by simp [ex]
    have step1 : ∀ (d : UInt8) (x : B), d ≠ 35 → code (d :: x) = d :: code x := fun d x hd => by
      unfold code
      rw [List.takeWhile_cons_of_pos (by simpa using hd)]
    by_cases h35 : c = 35
    · subst h35
      rw [e, if_neg (by decide), if_pos (by simp)]
      simp [code, ex]
    · by_cases h32 : c = 32
      · subst h32
        rw [e, if_pos rfl]
        simp only [List.cons_append, List.nil_append]
        rw [step1 _ _ (by decide), step1 _ _ (by decide), step1 _ _ (by decide), ih]
        by_cases hm : (35 : UInt8) ∈ r
        · rw [if_pos hm, if_pos (by simp [hm]), step1 _ _ (by decide)]
          simp [ex]
        · rw [if_neg hm, if_neg (by simp [hm])]
      · rw [e, if_neg h32]
        simp only [List.cons_append, List.nil_append]
        rw [step1 _ _ h35, ih]
        by_cases hm : (35 : UInt8) ∈ r
        · rw [if_pos hm, if_pos (by simp [hm]), step1 _ _ h35]
          simp [ex, h32]
        · rw [if_neg hm, if_neg (by simp [hm, Ne.symm h35])]
          try simp
theorem code_no (l : B) (h : 35 ∉ l) : code l = l := by
  induction l with
  | nil => rfl
  | cons c r ih =>
    have : c ≠ 35 := fun e => h (by simp [e])
    unfold code at ih ⊢
    rw [List.takeWhile_cons_of_pos (by simpa using this), ih (fun hm => h (by simp [hm]))]
/-- a line with its blanks made more, and blanks (and a comment) behind: the same texts -/
theorem texts_ex (l m : B) (h : ∀ c ∈ code m, blank c = true) : texts (ex l ++ m) = texts l := by
  have hb : ∀ (x : B) (σ : B × List B), (∀ c ∈ x, blank c = true) → tall (x.foldl tstep σ) = tall σ := by
    intro x
    induction x with
    | nil => intro σ _; rfl
    | cons c r ih =>
      intro σ hx
      rw [List.foldl_cons, tall_blank σ c (hx c (by simp)), ih _ (fun d hd => hx d (by simp [hd]))]
      simp [tall]
  unfold texts trun
  rw [code_ex]
  split
  · rw [trun_ex]
  · rename_i hn
    rw [List.foldl_append, hb _ _ h, trun_ex, code_no l hn]
theorem texts_blank (m : B) (h : ∀ c ∈ code m, blank c = true) : texts m = [] := by
  have := texts_ex [] m h
  rw [show ex [] = [] from rfl, List.nil_append] at this
  rw [this]
  rfl
/-- a source with its blanks made more, and something that says nothing behind each line but the last -/
def exS (sfx : Nat → B) : Nat → B → B
  | _, [] => []
  | n, c :: r => (if c = 10 then sfx n ++ [10] else if c = 32 then [32, 9, 32] else [c]) ++ exS sfx (if c = 10 then n + 1 else n) r
theorem pcs_exS (sfx : Nat → B) (h10 : ∀ n, ∀ c ∈ sfx n, c ≠ 10) (s : B) (n : Nat) : ∃ p ps, pcs s = p :: ps ∧ ∀ pre : B, (∀ c ∈ pre, c ≠ 10) → ∃ q qs, pcs (pre ++ exS sfx n s) = (pre ++ q) :: qs ∧
    ((ps = [] ∧ q = ex p ∧ qs = []) ∨ (q = ex p ++ sfx n ∧ (∀ m, (∀ c ∈ code (sfx n), blank c = true) → (∀ k, ∀ c ∈ code (sfx k), blank c = true) → tl m qs = tl m ps))) := by
  induction s generalizing n with
  | nil =>
    refine ⟨[], [], rfl, fun pre hp => ⟨[], [], ?_, .inl ⟨rfl, rfl, rfl⟩⟩⟩
    simp only [exS, List.append_nil]
    exact pcs_none pre hp
  | cons c r ih =>
    by_cases hc : c = 10
    · subst hc
      obtain ⟨p, ps, e1, e2⟩ := ih (n + 1)
      refine ⟨[], p :: ps, by rw [pcs, if_pos rfl, e1], fun pre hp => ?_⟩
      obtain ⟨q, qs, f1, f2⟩ := e2 [] (by simp)
      refine ⟨sfx n, q :: qs, ?_, .inr ⟨by simp [ex], fun m _ hb => ?_⟩⟩
      · have e : pre ++ exS sfx n (10 :: r) = (pre ++ sfx n) ++ 10 :: exS sfx (n + 1) r := by simp [exS]
        rw [e, pcs_app _ _ (fun c hc => by
          rw [List.mem_append] at hc
          rcases hc with hc | hc
          · exact hp c hc
          · exact h10 n c hc)]
        simp only [List.nil_append] at f1
        rw [f1]
      · rcases f2 with ⟨g1, g2, g3⟩ | ⟨g1, g2⟩
        · subst g1 g2 g3
          have : texts (ex p) = texts p := by
            have := texts_ex p [] (by simp [code])
            simpa using this
          simp [tl, this]
        · subst g1
          rw [tl, tl, texts_ex p _ (hb _), g2 (m + 1) (hb _) hb]
    · obtain ⟨p, ps, e1, e2⟩ := ih n
      refine ⟨c :: p, ps, by rw [pcs, if_neg hc, e1], fun pre hp => ?_⟩
      have hx : ∀ d ∈ pre ++ (if c = 32 then [32, 9, 32] else [c]), d ≠ 10 := by
        intro d hd
        rw [List.mem_append] at hd
        rcases hd with hd | hd
        · exact hp d hd
        · split at hd
          · simp only [List.mem_cons, List.not_mem_nil, or_false] at hd
            rcases hd with rfl | rfl | rfl <;> decide
          · simp only [List.mem_singleton] at hd
            subst hd
            exact hc
      obtain ⟨q, qs, f1, f2⟩ := e2 _ hx
      refine ⟨(if c = 32 then [32, 9, 32] else [c]) ++ q, qs, ?_, ?_⟩
      · have e : pre ++ exS sfx n (c :: r) = (pre ++ if c = 32 then [32, 9, 32] else [c]) ++ exS sfx n r := by simp [exS, hc]
        rw [e, f1, List.append_assoc]
      · have e : ex (c :: p) = (if c = 32 then [32, 9, 32] else [c]) ++ ex p := by simp [ex]
        rcases f2 with ⟨g1, g2, g3⟩ | ⟨g1, g2⟩
        · exact .inl ⟨g1, by rw [g2, e], g3⟩
        · exact .inr ⟨by rw [g1, e, List.append_assoc], g2⟩
theorem tl_exS (sfx : Nat → B) (h10 : ∀ n, ∀ c ∈ sfx n, c ≠ 10) (hb : ∀ n, ∀ c ∈ code (sfx n), blank c = true) (s : B) (m : Nat) : tl m (pcs (exS sfx 0 s)) = tl m (pcs s) := by
  obtain ⟨p, ps, e1, e2⟩ := pcs_exS sfx h10 s 0
  obtain ⟨q, qs, f1, f2⟩ := e2 [] (by simp)
  simp only [List.nil_append] at f1
  rw [f1, e1]
  rcases f2 with ⟨g1, g2, g3⟩ | ⟨g1, g2⟩
  · subst g1 g2 g3
    have : texts (ex p) = texts p := by
      have := texts_ex p [] (by simp [code])
      simpa using this
    simp [tl, this]
  · subst g1
    rw [tl, tl, texts_ex p _ (hb _), g2 (m + 1) (hb _) hb]
/-- lines that say nothing, ahead -/
def ahead (one : B) (k : Nat) (r : B) : B := match k with | 0 => r | k + 1 => one ++ 10 :: ahead one k r
theorem tl_ahead (o : B) (h10 : ∀ c ∈ o, c ≠ 10) (hb : ∀ c ∈ code o, blank c = true) (k : Nat) (r : B) (n : Nat) : tl n (pcs (ahead o k r)) = tl (n + k) (pcs r) := by
  induction k generalizing n with
  | zero => rfl
  | succ k ih =>
    rw [ahead, pcs_app _ _ h10, tl, texts_blank o hb, if_pos rfl, List.nil_append, ih]
    congr 1
    omega
/-- the statement of ParseLines, in plain words -/
theorem parse_more (o : B) (h10 : ∀ c ∈ o, c ≠ 10) (hb : ∀ c ∈ code o, blank c = true) (sfx : Nat → B) (g10 : ∀ n, ∀ c ∈ sfx n, c ≠ 10) (gb : ∀ n, ∀ c ∈ code (sfx n), blank c = true) (k : Nat) (s : B) :
    parseL (ahead o k (exS sfx 0 s)) = (match parseL s with | .ok f => .ok f | .error (n, e) => .error (n + k, e)) := by
  refine parse_shift s _ k ?_
  rw [linesT_tl, linesT_tl, tl_ahead o h10 hb, tl_exS sfx g10 gb, tl_shift]
/-- what stands behind -/
theorem pcs_two (a b : B) : pcs (a ++ 10 :: b) = pcs a ++ pcs b := by
  induction a with
  | nil => simp [pcs]
  | cons c r ih =>
    by_cases hc : c = 10
    · subst hc
      rw [List.cons_append, pcs, if_pos rfl, ih, pcs, if_pos rfl, List.cons_append]
    · rw [List.cons_append, pcs, if_neg hc, ih, pcs, if_neg hc]
      cases hp : pcs r with
      | nil => exact absurd hp (pcs_ne r)
      | cons p ps => rfl
theorem pcs_count (a : B) : (pcs a).length = a.count 10 + 1 := by
  induction a with
  | nil => rfl
  | cons c r ih =>
    by_cases hc : c = 10
    · subst hc
      rw [pcs, if_pos rfl, List.length_cons, ih, List.count_cons_self]
    · rw [pcs, if_neg hc, List.count_cons_of_ne hc]
      cases hp : pcs r with
      | nil => exact absurd hp (pcs_ne r)
      | cons p ps => rw [← ih, hp]; rfl
theorem gnames_app (n : Nat) (a b : List (List B)) (hb : ∀ l ∈ b, ∀ w r, l = w :: r → w ≠ sGlyph) : gnames n (a ++ b) = gnames n a := by
  induction a generalizing n with
  | nil =>
    rw [List.nil_append]
    induction b with
    | nil => rfl
    | cons l L ih =>
      have := ih (fun x hx => hb x (by simp [hx]))
      cases l with
      | nil => rw [gnames_nil]; exact this
      | cons w r => rw [gnames_cons, if_neg (hb (w :: r) (by simp) w r rfl)]; exact this
  | cons l L ih =>
    cases l with
    | nil => rw [List.cons_append, gnames_nil, gnames_nil]; exact ih n
    | cons w r =>
      rw [List.cons_append, gnames_cons, gnames_cons]
      split
      · rw [ih]
      · exact ih n
/-- what stands behind plays no part, if it names no glyph and its first line is no statement -/
theorem parse_behind (s t : B) (l : List B) (ht : ∀ n, ∃ R, tl n (pcs t) = ((n : Int), l) :: R ∧ ∀ x ∈ R, ∀ w r, x.2 = w :: r → w ≠ sGlyph) (hl : ∀ w r, l = w :: r → w ≠ sGlyph) (hw : ∀ gl st, stmt gl st l = .error 22) :
    parseL (s ++ 10 :: t) = (match parseL s with | .ok _ => .error (((s.count 10 + 2 : Nat) : Int), 22) | .error x => .error x) := by
  obtain ⟨R, h1, h2⟩ := ht (1 + (s.count 10 + 1))
  have e : linesT (s ++ 10 :: t) = linesT s ++ (((1 + (s.count 10 + 1) : Nat) : Int), l) :: R := by
    rw [linesT_tl, pcs_two, tl_app, pcs_count, h1, linesT_tl]
  have eg : gnames 0 ((linesT (s ++ 10 :: t)).map (·.2)) = gnames 0 ((linesT s).map (·.2)) := by
    rw [e, List.map_append]
    refine gnames_app 0 _ _ fun x hx w r hr => ?_
    rw [List.map_cons, List.mem_cons, List.mem_map] at hx
    rcases hx with rfl | ⟨y, hy, rfl⟩
    · exact hl w r hr
    · exact h2 y hy w r hr
  unfold parseL
  rw [eg, e, stmts_app]
  cases stmts (gnames 0 ((linesT s).map (·.2))) ps0 (linesT s) with
  | error x => rfl
  | ok st =>
    simp only [stmts, hw]
    show Except.error _ = Except.error _
    congr 2
    omega
end Go.Proofs.YtkijckccfookeaaGreatDoor
