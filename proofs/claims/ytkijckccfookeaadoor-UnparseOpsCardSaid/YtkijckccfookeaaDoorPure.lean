/- Plain Lean: the words of a line, and the lines of a source, as lists of bytes. -/
import Derived.Laws.RangeAny
namespace Go.Proofs.YtkijckccfookeaaDoor

abbrev B := List UInt8
def blank (c : UInt8) : Bool := c == 32 || c == 9
/-- where the reading of a line stands: the place, where the open word began, its bytes so far, the words that ended -/
structure St where
  at' : Nat
  fr : Nat
  cur : B
  told : List (Nat × B)
def st0 : St := ⟨0, 0, [], []⟩
def St.pend (σ : St) : List (Nat × B) := if σ.cur = [] then [] else [(σ.fr, σ.cur)]
def St.all (σ : St) : List (Nat × B) := σ.told ++ σ.pend
def step (σ : St) (c : UInt8) : St :=
  if blank c then ⟨σ.at' + 1, 0, [], σ.all⟩
  else ⟨σ.at' + 1, if σ.cur = [] then σ.at' else σ.fr, σ.cur ++ [c], σ.told⟩
def code (l : B) : B := l.takeWhile (fun c => c != 35)
def run (l : B) : St := l.foldl step st0
/-- the words of a line: where each begins, its bytes -/
def one (l : B) : List (Nat × B) := (run (code l)).all

theorem run_snoc (l : B) (c : UInt8) : run (l ++ [c]) = step (run l) c := by simp [run]
theorem run_at (l : B) : (run l).at' = l.length := by
  suffices h : ∀ (σ : St), (l.foldl step σ).at' = σ.at' + l.length by simpa [run, st0] using h st0
  induction l with
  | nil => intro σ; simp
  | cons c r ih => intro σ; rw [List.foldl_cons, ih]; unfold step; split <;> simp <;> omega
/-- the open word is what has come since it began -/
theorem run_cur (l : B) : (run l).cur ≠ [] → (run l).fr + (run l).cur.length = l.length ∧ l.drop (run l).fr = (run l).cur := by
  suffices h : ∀ k, k ≤ l.length → (run (l.take k)).cur ≠ [] → (run (l.take k)).fr + (run (l.take k)).cur.length = k ∧ (l.take k).drop (run (l.take k)).fr = (run (l.take k)).cur by
    simpa using h l.length (Nat.le_refl _)
  intro k
  induction k with
  | zero => intro _ h; simp [run, st0] at h
  | succ k ih =>
    intro hk
    have e : l.take (k + 1) = l.take k ++ [l[k]] := by rw [List.take_succ_eq_append_getElem (by omega)]
    rw [e, run_snoc]
    have ha := run_at (l.take k)
    rw [List.length_take, Nat.min_eq_left (by omega)] at ha
    unfold step
    split
    · intro h; simp at h
    · intro _
      by_cases hc : (run (l.take k)).cur = []
      · simp only [hc, ha, if_true, List.nil_append, List.length_cons, List.length_nil]
        refine ⟨by simp, ?_⟩
        rw [List.drop_append, List.drop_eq_nil_of_le (by rw [List.length_take]; omega), List.length_take, Nat.min_eq_left (by omega)]
        simp
      · have := ih (by omega) hc
        simp only [hc, if_false, List.length_append, List.length_cons, List.length_nil]
        refine ⟨by omega, ?_⟩
        rw [List.drop_append_of_le_length (by rw [List.length_take]; omega), this.2]
theorem step_wide (σ : St) (seg : B) (hc : σ.cur ≠ []) (hs : ∀ c ∈ seg, blank c = false) : seg.foldl step σ = ⟨σ.at' + seg.length, σ.fr, σ.cur ++ seg, σ.told⟩ := by
  induction seg generalizing σ with
  | nil => cases σ; simp
  | cons c r ih =>
    rw [List.foldl_cons, ih _ (by unfold step; simp [hs c (by simp)]) (fun d hd => hs d (by simp [hd]))]
    unfold step
    simp [hs c (by simp), hc]
    omega

/-- the pieces between the bytes 10 -/
def pcs : B → List B
  | [] => [[]]
  | c :: r => if c = 10 then [] :: pcs r else match pcs r with | p :: ps => (c :: p) :: ps | [] => [[c]]
theorem pcs_ne (l : B) : pcs l ≠ [] := by
  cases l with
  | nil => simp [pcs]
  | cons c r =>
    rw [pcs]
    split
    · simp
    · split <;> simp
theorem pcs_none (l : B) (h : ∀ c ∈ l, c ≠ 10) : pcs l = [l] := by
  induction l with
  | nil => rfl
  | cons c r ih => rw [pcs, if_neg (h c (by simp)), ih (fun d hd => h d (by simp [hd]))]
theorem pcs_app (a b : B) (h : ∀ c ∈ a, c ≠ 10) : pcs (a ++ 10 :: b) = a :: pcs b := by
  induction a with
  | nil => simp [pcs]
  | cons c r ih =>
    rw [List.cons_append, pcs, if_neg (h c (by simp)), ih (fun d hd => h d (by simp [hd]))]
/-- a word: its line, its place, its bytes -/
abbrev Wd := Int × Int × B
def num (n : Nat) (l : List (Nat × B)) : List Wd := l.map (fun x => ((n : Int), (x.1 : Int), x.2))
def linesFrom : Nat → List B → List (List Wd)
  | _, [] => []
  | n, p :: ps => (if one p = [] then [] else [num n (one p)]) ++ linesFrom (n + 1) ps
def linesL (l : B) : List (List Wd) := linesFrom 1 (pcs l)
theorem linesFrom_app (n : Nat) (a b : List B) : linesFrom n (a ++ b) = linesFrom n a ++ linesFrom (n + a.length) b := by
  induction a generalizing n with
  | nil => simp [linesFrom]
  | cons p ps ih =>
    simp only [List.cons_append, linesFrom, ih, List.length_cons, List.append_assoc]
    rw [show n + 1 + ps.length = n + (ps.length + 1) by omega]

/-- behind the first byte of a wide rune stand bytes from 128 on, and all lie in the text -/
theorem decode_wide (s : ByteArray) (pos : Nat) (h : pos < s.size) : pos + (Utf8.decode s pos).2 ≤ s.size ∧ ∀ k, 1 ≤ k → k < (Utf8.decode s pos).2 → 128 ≤ (s.get! (pos + k)).toNat := by
  have key : ∀ k, (decide (pos + k < s.size) && (s.get! (pos + k)).toNat / 64 == 2) = true → pos + k < s.size ∧ 128 ≤ (s.get! (pos + k)).toNat := by
    intro k hk
    simp at hk
    omega
  simp only [Utf8.decode]
  split
  · exact ⟨by simp; omega, fun k h1 h2 => by simp at h2; omega⟩
  · split
    · rename_i hc
      simp only [Bool.and_eq_true] at hc
      have h1 := key 1 (by simpa using hc.2)
      split
      · exact ⟨by simp; omega, fun k a b => by simp at b; obtain rfl : k = 1 := by omega
                                               exact h1.2⟩
      · exact ⟨by simp; omega, fun k a b => by simp at b; omega⟩
    · split
      · rename_i hc
        simp only [Bool.and_eq_true] at hc
        have h1 := key 1 (by simpa using hc.1.2)
        have h2 := key 2 (by simpa using hc.2)
        split
        · exact ⟨by simp; omega, fun k a b => by
            simp at b
            obtain rfl | rfl : k = 1 ∨ k = 2 := by omega
            · exact h1.2
            · exact h2.2⟩
        · exact ⟨by simp; omega, fun k a b => by simp at b; omega⟩
      · split
        · rename_i hc
          simp only [Bool.and_eq_true] at hc
          have h1 := key 1 (by simpa using hc.1.1.2)
          have h2 := key 2 (by simpa using hc.1.2)
          have h3 := key 3 (by simpa using hc.2)
          split
          · exact ⟨by simp; omega, fun k a b => by
              simp at b
              obtain rfl | rfl | rfl : k = 1 ∨ k = 2 ∨ k = 3 := by omega
              · exact h1.2
              · exact h2.2
              · exact h3.2⟩
          · exact ⟨by simp; omega, fun k a b => by simp at b; omega⟩
        · exact ⟨by simp; omega, fun k a b => by simp at b; omega⟩
end Go.Proofs.YtkijckccfookeaaDoor
