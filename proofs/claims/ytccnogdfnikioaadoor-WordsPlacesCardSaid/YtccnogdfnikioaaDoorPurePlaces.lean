/- Plain Lean: where the words of a source stand. -/
import Derived.Test.YtccnogdfnikioaaDoorAll
import Derived.Test.YtccnogdfnikioaaDoorPureNotes
namespace Go.Proofs.YtccnogdfnikioaaDoor

/-- the places behind the bytes 10 -/
def tens (n : Nat) : B → List Nat
  | [] => []
  | c :: r => if c = 10 then (n + 1) :: tens (n + 1) r else tens (n + 1) r
def startsL (s : B) : List Nat := 0 :: tens 0 s
theorem tens_snoc (n : Nat) (a : B) (c : UInt8) : tens n (a ++ [c]) = tens n a ++ if c = 10 then [n + a.length + 1] else [] := by
  induction a generalizing n with
  | nil => simp [tens]
  | cons d r ih =>
    have e : n + 1 + r.length + 1 = n + (r.length + 1) + 1 := by omega
    simp only [List.cons_append, tens, ih, List.length_cons, e]
    split <;> simp
theorem tens_len (n : Nat) (a : B) : (tens n a).length ≤ a.length := by
  induction a generalizing n with
  | nil => simp [tens]
  | cons d r ih => have := ih (n + 1); rw [tens]; split <;> simp <;> omega
theorem starts_len (a : B) : (startsL a).length ≤ a.length + 1 := by have := tens_len 0 a; simp [startsL]; omega
def stF (n : Nat) : List B → List Nat
  | [] => []
  | p :: ps => n :: stF (n + p.length + 1) ps
theorem stF_pcs (s : B) (n : Nat) : stF n (pcs s) = n :: tens n s := by
  induction s generalizing n with
  | nil => simp [pcs, stF, tens]
  | cons c r ih =>
    rw [pcs]
    split
    · rename_i h
      rw [stF, tens, if_pos h]
      simp only [List.length_nil, Nat.add_zero]
      rw [ih]
    · rename_i h
      rw [tens, if_neg h]
      have := ih (n + 1)
      split
      · rename_i p ps hp
        rw [hp, stF] at this
        simp only [List.cons.injEq, true_and] at this
        rw [stF, ← this, List.length_cons]
        rw [show n + (p.length + 1) + 1 = n + 1 + p.length + 1 by omega]
      · rename_i hp
        exact absurd hp (pcs_ne r)
theorem stF_len (n : Nat) (ps : List B) : (stF n ps).length = ps.length := by
  induction ps generalizing n with
  | nil => rfl
  | cons p ps ih => simp [stF, ih]
/-- a piece stands at its start -/
theorem piece_at (s : B) : ∀ (n k st : Nat) (p : B), (pcs s)[k]? = some p → (stF n (pcs s))[k]? = some st → n ≤ st ∧ ∃ rest, s.drop (st - n) = p ++ rest := by
  induction s with
  | nil =>
    intro n k st p h1 h2
    cases k with
    | zero =>
      simp [pcs] at h1
      simp [pcs, stF] at h2
      subst h1 h2
      exact ⟨Nat.le_refl _, [], by simp⟩
    | succ k => simp [pcs] at h1
  | cons c r ih =>
    intro n k st p h1 h2
    rw [pcs] at h1 h2
    split at h1
    · rename_i h
      rw [if_pos h] at h2
      cases k with
      | zero =>
        simp at h1
        simp [stF] at h2
        subst h1 h2
        exact ⟨Nat.le_refl _, c :: r, by simp⟩
      | succ k =>
        simp only [List.getElem?_cons_succ] at h1
        simp only [stF, List.getElem?_cons_succ, List.length_nil, Nat.add_zero] at h2
        obtain ⟨a, rest, e⟩ := ih (n + 1) k st p h1 h2
        refine ⟨by omega, rest, ?_⟩
        rw [show st - n = (st - (n + 1)) + 1 by omega, List.drop_succ_cons, e]
    · rename_i h
      rw [if_neg h] at h2
      split at h1
      · rename_i q qs hq
        rw [hq] at ih
        simp only [hq] at h2
        cases k with
        | zero =>
          simp at h1
          simp [stF] at h2
          subst h1 h2
          obtain ⟨-, rest, e⟩ := ih (n + 1) 0 (n + 1) q rfl rfl
          refine ⟨Nat.le_refl _, rest, ?_⟩
          simp at e
          simp [e]
        | succ k =>
          simp only [List.getElem?_cons_succ] at h1
          simp only [stF, List.getElem?_cons_succ, List.length_cons] at h2
          obtain ⟨a, rest, e⟩ := ih (n + 1) (k + 1) st p (by simpa using h1) (by
            simp only [stF, List.getElem?_cons_succ]
            rw [show n + 1 + q.length + 1 = n + (q.length + 1) + 1 by omega]
            exact h2)
          refine ⟨by omega, rest, ?_⟩
          rw [show st - n = (st - (n + 1)) + 1 by omega, List.drop_succ_cons, e]
      · rename_i hq
        exact absurd hq (pcs_ne r)
/-- the words of a line that begin ahead of place i: each where it is said, a blank ahead -/
def prevE (ws : List (Nat × B)) (k : Nat) : Int := match k with | 0 => -1 | k + 1 => match ws[k]? with | some x => ((x.1 + x.2.length : Nat) : Int) | none => 0
theorem prevE_app (ws vs : List (Nat × B)) (k : Nat) (h : k ≤ ws.length) : prevE (ws ++ vs) k = prevE ws k := by
  cases k with
  | zero => rfl
  | succ k => simp only [prevE]; rw [List.getElem?_append_left (by omega)]
theorem done_facts (c : B) (i : Nat) (hi : i ≤ c.length) : ∀ k x, (doneL c i)[k]? = some x → x.1 < i ∧ x.2 = (c.drop x.1).takeWhile nb ∧ x.2 ≠ [] ∧ (0 < x.1 → ∃ b, c[x.1 - 1]? = some b ∧ blank b = true) ∧ prevE (doneL c i) k < (x.1 : Int) := by
  induction i with
  | zero => intro k x h; rw [doneL_zero] at h; simp at h
  | succ i ih =>
    have ih := ih (by omega)
    obtain ⟨b, hb⟩ : ∃ b, c[i]? = some b := ⟨_, List.getElem?_eq_getElem (by omega)⟩
    have old : ∀ k x, (doneL c i)[k]? = some x → x.1 < i + 1 ∧ x.2 = (c.drop x.1).takeWhile nb ∧ x.2 ≠ [] ∧ (0 < x.1 → ∃ b, c[x.1 - 1]? = some b ∧ blank b = true) ∧ prevE (doneL c i) k < (x.1 : Int) := fun k x h => by
      obtain ⟨h1, h2⟩ := ih k x h
      exact ⟨by omega, h2⟩
    cases hbl : blank b with
    | true => rw [doneL_blank c i b hb hbl]; exact old
    | false =>
      by_cases hc : (run (c.take i)).cur = []
      · rw [doneL_new c i b hb hbl hc]
        have hprev : 0 < i → ∃ b, c[i - 1]? = some b ∧ blank b = true := by
          intro h0
          obtain ⟨b', hb'⟩ : ∃ b', c[i - 1]? = some b' := ⟨_, List.getElem?_eq_getElem (by omega)⟩
          refine ⟨b', hb', (cur_iff c (i - 1) b' hb').1 ?_⟩
          rw [show i - 1 + 1 = i by omega]
          exact hc
        intro k x hx
        by_cases hk : k < (doneL c i).length
        · rw [List.getElem?_append_left hk] at hx
          rw [prevE_app _ _ _ (by omega)]
          exact old k x hx
        · rw [List.getElem?_append_right (by omega)] at hx
          have hk' : k = (doneL c i).length := by
            have := (List.getElem?_eq_some_iff.1 hx).1
            simp at this
            omega
          subst hk'
          simp at hx
          subst hx
          refine ⟨by simp, rfl, ?_, hprev, ?_⟩
          · show (c.drop i).takeWhile nb ≠ []
            rw [drop_cons c i b hb, List.takeWhile_cons]
            simp [nb, hbl]
          · rw [prevE_app _ _ _ (Nat.le_refl _)]
            show _ < (i : Int)
            cases hd : (doneL c i).length with
            | zero => simp [prevE]; omega
            | succ m =>
              obtain ⟨y, hy⟩ : ∃ y, (doneL c i)[m]? = some y := ⟨_, List.getElem?_eq_getElem (by omega)⟩
              obtain ⟨y1, y2, -⟩ := ih m y hy
              simp only [prevE, hy]
              obtain ⟨b', hb', hbb⟩ := hprev (by omega)
              have : y.1 + y.2.length < i := by
                rcases Nat.lt_or_ge (y.1 + y.2.length) i with h | h
                · exact h
                · exfalso
                  have hlt : i - 1 - y.1 < y.2.length := by omega
                  have hm := List.getElem_mem hlt
                  have hnb : nb (y.2[i - 1 - y.1]) = true := by
                    have : ∀ z ∈ y.2, nb z = true := by rw [y2]; intro z hz; exact (List.all_eq_true.1 List.all_takeWhile) z hz
                    exact this _ hm
                  have hpre : y.2 <+: c.drop y.1 := by rw [y2]; exact List.takeWhile_prefix _
                  have e1 : (c.drop y.1)[i - 1 - y.1]? = y.2[i - 1 - y.1]? := by
                    obtain ⟨rest, hr⟩ := hpre
                    rw [← hr, List.getElem?_append_left hlt]
                  rw [List.getElem?_drop, show y.1 + (i - 1 - y.1) = i - 1 by omega, hb', List.getElem?_eq_getElem hlt] at e1
                  simp only [Option.some.injEq] at e1
                  rw [← e1] at hnb
                  simp [nb, hbb] at hnb
              omega
      · rw [doneL_in c i b hb hbl hc]; exact old
/-- a word of a line -/
theorem one_facts (p : B) (k : Nat) (x : Nat × B) (h : (one p)[k]? = some x) : (∃ rest, p.drop x.1 = x.2 ++ rest) ∧ x.2 ≠ [] ∧ (∀ c ∈ x.2, c ≠ 32 ∧ c ≠ 9 ∧ c ≠ 35) ∧ (0 < x.1 → ∃ b, p[x.1 - 1]? = some b ∧ (b = 32 ∨ b = 9)) ∧ prevE (one p) k < (x.1 : Int) := by
  have hE : doneL (code p) (code p).length = one p := doneL_end _
  rw [← hE] at h ⊢
  obtain ⟨h1, h2, h3, h4, h5⟩ := done_facts (code p) _ (Nat.le_refl _) k x h
  have hpre : code p <+: p := List.takeWhile_prefix _
  obtain ⟨r0, hr0⟩ := hpre
  have hno : ∀ c ∈ code p, c ≠ 35 := fun c hc => by have := (List.all_eq_true.1 List.all_takeWhile) c hc; simpa using this
  obtain ⟨r1, hr1⟩ : x.2 <+: (code p).drop x.1 := by rw [h2]; exact List.takeWhile_prefix _
  refine ⟨⟨r1 ++ r0, ?_⟩, h3, ?_, ?_, h5⟩
  · rw [← List.append_assoc, hr1]
    conv => lhs; rw [← hr0]
    rw [List.drop_append_of_le_length (by omega)]
  · intro c hc
    have a1 : nb c = true := by
      rw [h2] at hc
      exact (List.all_eq_true.1 List.all_takeWhile) c hc
    have a2 : c ∈ code p := List.mem_of_mem_drop (by rw [← hr1]; exact List.mem_append_left _ hc)
    have a3 := hno c a2
    simp [nb, blank] at a1
    exact ⟨a1.1, a1.2, a3⟩
  · intro h0
    obtain ⟨b, hb, hbl⟩ := h4 h0
    refine ⟨b, ?_, by simpa [blank] using hbl⟩
    rw [← hr0, List.getElem?_append_left (by omega)]
    exact hb
/-- the lines that are told: the number of each, its piece -/
theorem linesFrom_get (n : Nat) (ps : List B) (i : Nat) (r : List Wd) (h : (linesFrom n ps)[i]? = some r) : ∃ k p, ps[k]? = some p ∧ r = num (n + k) (one p) ∧ one p ≠ [] ∧ (∀ j r', j < i → (linesFrom n ps)[j]? = some r' → ∃ k' p', k' < k ∧ r' = num (n + k') (one p') ∧ one p' ≠ []) := by
  induction ps generalizing n i with
  | nil => simp [linesFrom] at h
  | cons p ps ih =>
    rw [linesFrom] at h ⊢
    by_cases hp : one p = []
    · rw [if_pos hp, List.nil_append] at h ⊢
      obtain ⟨k, q, h1, h2, h3, h4⟩ := ih (n + 1) i h
      refine ⟨k + 1, q, by simpa using h1, by rw [h2]; congr 1; omega, h3, fun j r' hj hr' => ?_⟩
      obtain ⟨k', p', a, b, c⟩ := h4 j r' hj hr'
      exact ⟨k' + 1, p', by omega, by rw [b]; congr 1; omega, c⟩
    · rw [if_neg hp] at h ⊢
      cases i with
      | zero =>
        simp at h
        subst h
        exact ⟨0, p, by simp, by simp, hp, fun j _ hj => by omega⟩
      | succ i =>
        simp only [List.singleton_append, List.getElem?_cons_succ] at h
        obtain ⟨k, q, h1, h2, h3, h4⟩ := ih (n + 1) i h
        refine ⟨k + 1, q, by simpa using h1, by rw [h2]; congr 1; omega, h3, fun j r' hj hr' => ?_⟩
        cases j with
        | zero =>
          simp at hr'
          subst hr'
          exact ⟨0, p, by omega, by simp, hp⟩
        | succ j =>
          simp only [List.singleton_append, List.getElem?_cons_succ] at hr'
          obtain ⟨k', p', a, b, c⟩ := h4 j r' (by omega) hr'
          exact ⟨k' + 1, p', by omega, by rw [b]; congr 1; omega, c⟩
/-- the line of the row ahead of row i (0 at the head) -/
def wasL (rows : List (List Wd)) : Nat → Int
  | 0 => 0
  | i + 1 => match rows[i]? with | some (x :: _) => x.1 | _ => 0
/-- where the word ahead of word k ended (-1 at the head) -/
def prevA (r : List Wd) : Nat → Int
  | 0 => -1
  | k + 1 => match r[k]? with | some x => x.2.1 + (x.2.2.length : Int) | none => 0
/-- what is to be told of a word -/
structure WordAt (s : B) (ln st : Nat) (pr : Int) (a : Nat) (t : B) : Prop where
  pos : pr < (a : Int)
  ne : t ≠ []
  fit : st + a + t.length ≤ s.length
  sub : (s.drop (st + a)).take t.length = t
  pre : 0 < a → ∃ b, s[st + a - 1]? = some b ∧ (b = 32 ∨ b = 9)
  all : ∀ c ∈ t, c ≠ 32 ∧ c ≠ 9 ∧ c ≠ 10 ∧ c ≠ 35
theorem num_get (n : Nat) (l : List (Nat × B)) (k : Nat) : (num n l)[k]? = (l[k]?).map (fun x => ((n : Int), (x.1 : Int), x.2)) := by simp [num]
theorem prevA_num (n : Nat) (l : List (Nat × B)) (k : Nat) : prevA (num n l) k = prevE l k := by
  cases k with
  | zero => rfl
  | succ k =>
    simp only [prevA, prevE, num_get]
    cases l[k]? with
    | none => rfl
    | some x => simp
theorem one_nil' : one [] = [] := by decide
theorem places (s : B) (i : Nat) (r : List Wd) (h : (linesL s)[i]? = some r) :
    ∃ ln st : Nat, 1 ≤ ln ∧ ln ≤ (startsL s).length ∧ (startsL s)[ln - 1]? = some st ∧ wasL (linesL s) i < (ln : Int) ∧ wasL (linesL s) (i + 1) = (ln : Int) ∧ 0 < r.length ∧ st ≤ s.length ∧
      ∀ k x, r[k]? = some x → ∃ (a : Nat) (t : B), x = ((ln : Int), (a : Int), t) ∧ WordAt s ln st (prevA r k) a t := by
  obtain ⟨k, p, hk, hr, hne, hold⟩ := linesFrom_get 1 (pcs s) i r h
  have hS : startsL s = stF 0 (pcs s) := (stF_pcs s 0).symm
  have hkl := (List.getElem?_eq_some_iff.1 hk).1
  obtain ⟨st, hst⟩ : ∃ st, (stF 0 (pcs s))[k]? = some st := ⟨_, List.getElem?_eq_getElem (by rw [stF_len]; exact hkl)⟩
  obtain ⟨-, rest, hdrop⟩ := piece_at s 0 k st p hk hst
  rw [Nat.sub_zero] at hdrop
  have hpp : p ∈ pcs s := List.mem_of_getElem? hk
  have hlen : 0 < (one p).length := List.length_pos_iff.2 hne
  have hstl : st ≤ s.length := by
    rcases Nat.lt_or_ge s.length st with h | h
    · rw [List.drop_eq_nil_of_le (by omega)] at hdrop
      have : p = [] := (List.append_eq_nil_iff.1 hdrop.symm).1
      subst this
      exact absurd one_nil' hne
    · exact h
  have hfit : st + p.length ≤ s.length := by
    have := congrArg List.length hdrop
    rw [List.length_drop, List.length_append] at this
    omega
  refine ⟨1 + k, st, by omega, by rw [hS, stF_len]; omega, by rw [hS, show 1 + k - 1 = k by omega]; exact hst, ?_, ?_, by rw [hr, num_len]; exact hlen, hstl, ?_⟩
  · cases i with
    | zero => simp [wasL]; omega
    | succ i =>
      obtain ⟨r', hr'⟩ : ∃ r', (linesL s)[i]? = some r' := ⟨_, List.getElem?_eq_getElem (by have := (List.getElem?_eq_some_iff.1 h).1; omega)⟩
      obtain ⟨k', p', a, b, c⟩ := hold i r' (by omega) hr'
      simp only [wasL, hr']
      subst b
      cases ho : one p' with
      | nil => exact absurd ho c
      | cons x xs => simp [num]; omega
  · simp only [wasL, h]
    subst hr
    cases ho : one p with
    | nil => exact absurd ho hne
    | cons x xs => simp [num]
  · intro j x hx
    rw [hr, num_get] at hx
    cases ho : (one p)[j]? with
    | none => rw [ho] at hx; simp at hx
    | some y =>
      rw [ho] at hx
      simp at hx
      obtain ⟨⟨r1, h1⟩, h2, h3, h4, h5⟩ := one_facts p j y ho
      refine ⟨y.1, y.2, by rw [← hx]; simp, ?_⟩
      have hy : y.1 + y.2.length ≤ p.length := by
        have := congrArg List.length h1
        rw [List.length_drop, List.length_append] at this
        have : 0 < y.2.length := List.length_pos_iff.2 h2
        omega
      refine ⟨by rw [hr, prevA_num]; exact h5, h2, by omega, ?_, ?_, ?_⟩
      · rw [← List.drop_drop, hdrop, List.drop_append_of_le_length (by omega), h1, List.append_assoc, List.take_left]
      · intro h0
        obtain ⟨b, hb, hbb⟩ := h4 h0
        refine ⟨b, ?_, hbb⟩
        have e : (s.drop st)[y.1 - 1]? = some b := by rw [hdrop, List.getElem?_append_left (by omega)]; exact hb
        rw [List.getElem?_drop] at e
        rw [show st + y.1 - 1 = st + (y.1 - 1) by omega]
        exact e
      · intro c hc
        obtain ⟨a1, a2, a3⟩ := h3 c hc
        have : c ∈ p := List.mem_of_mem_drop (by rw [h1]; exact List.mem_append_left _ hc)
        exact ⟨a1, a2, pcs_no s p hpp c this, a3⟩
end Go.Proofs.YtccnogdfnikioaaDoor
