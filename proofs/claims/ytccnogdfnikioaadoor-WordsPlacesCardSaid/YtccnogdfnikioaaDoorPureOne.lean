/- Plain Lean: the words of a line, seen from a place with a look ahead. -/
import Derived.Test.YtccnogdfnikioaaDoorPure
namespace Go.Proofs.YtccnogdfnikioaaDoor

def nb (c : UInt8) : Bool := !blank c
/-- the words that begin ahead of place i, each whole -/
def doneL (c : B) (i : Nat) : List (Nat × B) :=
  (run (c.take i)).told ++ if (run (c.take i)).cur = [] then [] else [((run (c.take i)).fr, (run (c.take i)).cur ++ (c.drop i).takeWhile nb)]
theorem take_snoc (c : B) (i : Nat) (b : UInt8) (h : c[i]? = some b) : c.take (i + 1) = c.take i ++ [b] := by
  obtain ⟨hk, hg⟩ := List.getElem?_eq_some_iff.1 h
  rw [List.take_succ_eq_append_getElem hk, hg]
theorem drop_cons (c : B) (i : Nat) (b : UInt8) (h : c[i]? = some b) : c.drop i = b :: c.drop (i + 1) := by
  obtain ⟨hk, hg⟩ := List.getElem?_eq_some_iff.1 h
  rw [List.drop_eq_getElem_cons hk, hg]
theorem cur_blank (c : B) (i : Nat) (b : UInt8) (h : c[i]? = some b) (hb : blank b = true) : (run (c.take (i + 1))).cur = [] := by
  rw [take_snoc c i b h, run_snoc, step, if_pos hb]
theorem cur_in (c : B) (i : Nat) (b : UInt8) (h : c[i]? = some b) (hb : blank b = false) : (run (c.take (i + 1))).cur ≠ [] := by
  rw [take_snoc c i b h, run_snoc, step, if_neg (by simp [hb])]
  simp
theorem doneL_zero (c : B) : doneL c 0 = [] := by simp [doneL, run, st0]
theorem doneL_end (c : B) : doneL c c.length = (run c).all := by
  simp [doneL, St.all, St.pend]
theorem doneL_blank (c : B) (i : Nat) (b : UInt8) (h : c[i]? = some b) (hb : blank b = true) : doneL c (i + 1) = doneL c i := by
  have e := take_snoc c i b h
  rw [doneL, if_pos (cur_blank c i b h hb), e, run_snoc, step, if_pos hb, List.append_nil]
  show (run (c.take i)).all = _
  have hn : nb b = false := by simp [nb, hb]
  rw [St.all, St.pend, doneL, drop_cons c i b h, List.takeWhile_cons]
  simp [hn]
theorem doneL_in (c : B) (i : Nat) (b : UInt8) (h : c[i]? = some b) (hb : blank b = false) (hc : (run (c.take i)).cur ≠ []) : doneL c (i + 1) = doneL c i := by
  have e := take_snoc c i b h
  rw [doneL, if_neg (cur_in c i b h hb), e, run_snoc, step, if_neg (by simp [hb]), doneL, if_neg hc, drop_cons c i b h, List.takeWhile_cons]
  have hn : nb b = true := by simp [nb, hb]
  simp [hc, hn]
theorem doneL_new (c : B) (i : Nat) (b : UInt8) (h : c[i]? = some b) (hb : blank b = false) (hc : (run (c.take i)).cur = []) : doneL c (i + 1) = doneL c i ++ [(i, (c.drop i).takeWhile nb)] := by
  have e := take_snoc c i b h
  have hl := run_at (c.take i)
  have hi := (List.getElem?_eq_some_iff.1 h).1
  rw [List.length_take, Nat.min_eq_left (by omega)] at hl
  rw [doneL, if_neg (cur_in c i b h hb), e, run_snoc, step, if_neg (by simp [hb]), doneL, if_pos hc, drop_cons c i b h, List.takeWhile_cons]
  have hn : nb b = true := by simp [nb, hb]
  simp [hc, hl, hn]
/-- a word has begun just where the byte ahead is no blank -/
theorem cur_iff (c : B) (i : Nat) (b : UInt8) (h : c[i]? = some b) : (run (c.take (i + 1))).cur = [] ↔ blank b = true := by
  cases hb : blank b with
  | true => simp [cur_blank c i b h hb]
  | false => simpa using cur_in c i b h hb
theorem cur_zero (c : B) : (run (c.take 0)).cur = [] := by simp [run, st0]
/-- how far a row reaches in which all is p -/
theorem takeWhile_upto {p : UInt8 → Bool} (l : B) (k : Nat) (hk : k ≤ l.length) (h : ∀ j c, j < k → l[j]? = some c → p c = true) (he : ∀ c, l[k]? = some c → p c = false) : l.takeWhile p = l.take k := by
  induction l generalizing k with
  | nil => simp
  | cons a r ih =>
    cases k with
    | zero =>
      have := he a rfl
      simp [this]
    | succ k =>
      have h0 := h 0 a (by omega) rfl
      rw [List.takeWhile_cons, if_pos h0, List.take_succ_cons, ih k (by simpa using hk) (fun j c hj hc => h (j + 1) c (by omega) (by simpa using hc)) (fun c hc => he c (by simpa using hc))]
theorem code_upto (s : B) (k : Nat) (hk : k ≤ s.length) (h : ∀ j c, j < k → s[j]? = some c → c ≠ 35) (he : ∀ c, s[k]? = some c → c = 35) : code s = s.take k :=
  takeWhile_upto s k hk (fun j c hj hc => by simpa using h j c hj hc) (fun c hc => by simpa using he c hc)
end Go.Proofs.YtccnogdfnikioaaDoor
