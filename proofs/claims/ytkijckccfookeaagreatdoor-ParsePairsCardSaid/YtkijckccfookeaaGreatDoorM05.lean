/- Plain Lean: the words of a line, seen from a place with a look ahead. -/
import Derived.Test.YtkijckccfookeaaGreatDoorM01
import Derived.Test.YtkijckccfookeaaGreatDoorM00
namespace Go.Proofs.YtkijckccfookeaaGreatDoor

def nb (c : UInt8) : Bool := !blank c
/-- the words that begin ahead of place i, each whole -/
def doneL (c : B) (i : Nat) : List (Nat × B) :=
  (run (c.take i)).told ++ if (run (c.take i)).cur = [] then [] else [((run (c.take i)).fr, (run (c.take i)).cur ++ (c.drop i).takeWhile nb)]
theorem take_snoc (c : B) (i : Nat) (b : UInt8) (h : c[i]? = some b) : c.take (i + 1) = c.take i ++ [b] := by
  obtain ⟨hk, hg⟩ := List.getElem?_eq_some_iff.1 h
  rw [List.take_succ_eq_append_getElem hk, hg]
theorem drop_cons (c : B) (i : Nat) (b : UInt8) (h : c[i]? = some b) : c.drop i = b :: c.drop (i + 1) := by
  obtain ⟨hk, hg⟩ := List.getElem?_eq_some_iff.1 h
  rw [List.drop_eq_getElem_cons hk, hg]
theorem cur_blank (c : B) (i : Nat) (b : UInt8) (h : c[i]? = some b) (hb : blank b = true) : (run (c.take (i + 1))).cur = [] := by
  rw [take_snoc c i b h, run_snoc, step, if_pos hb]
theorem cur_in (c : B) (i : Nat) (b : UInt8) (h : c[i]? = some b) (hb : blank b = false) : (run (c.take (i + 1))).cur ≠ [] := by
  rw [take_snoc c i b h, run_snoc, step, if_neg (by simp [hb])]
  simp
theorem doneL_zero (c : B) : doneL c 0 = [] := by simp [doneL, run, st0]
theorem doneL_end (c : B) : doneL c c.length = (run c).all := by
  simp [doneL, St.all, St.pend]
theorem doneL_blank (c : B) (i : Nat) (b : UInt8) (h : c[i]? = some b) (hb : blank b = true) : doneL c (i + 1) = doneL c i := by
  have e := take_snoc c i b h
  rw [doneL, if_pos (cur_blank c i b h hb), e, run_snoc, step, if_pos hb, List.append_nil]
  show (run (c.take i)).all = _
  have hn : nb b = false := by simp [nb, hb]
  rw [St.all, St.pend, doneL, drop_cons c i b h, List.takeWhile_cons]
  simp [hn]
theorem doneL_in (c : B) (i : Nat) (b : UInt8) (h : c[i]? = some b) (hb : blank b = false) (hc : (run (c.take i)).cur ≠ []) : doneL c (i + 1) = doneL c i := by
  have e := take_snoc c i b h
  rw [doneL, if_neg (cur_in c i b h hb), e, run_snoc, step, if_neg (by simp [hb]), doneL, if_neg hc, drop_cons c i b h, List.takeWhile_cons]
  have hn : nb b = true := by simp [nb, hb]
  simp [hc, hn]
theorem doneL_new (c : B) (i : Nat) (b : UInt8) (h : c[i]? = some b) (hb : blank b = false) (hc : (run (c.take i)).cur = []) : doneL c (i + 1) = doneL c i ++ [(i, (c.drop i).takeWhile nb)] := by
  have e := take_snoc c i b h
  have hl := run_at (c.take i)
  have hi := (List.getElem?_eq_some_iff.1 h).1
  rw [List.length_take, Nat.min_eq_left (by omega)] at hl
  rw [doneL, if_neg (cur_in c i b h hb), e, run_snoc, step, if_neg (by simp [hb]), doneL, if_pos hc, drop_cons c i b h, List.takeWhile_cons]
  have hn : nb b = true := by simp [nb, hb]
  simp [hc, hl, hn]
/-- a word has begun just where the byte ahead is no blank -/
theorem cur_iff (c : B) (i : Nat) (b : UInt8) (h : c[i]? = some b) : (run (c.take (i + 1))).cur = [] ↔ blank b = true := by
  cases hb : blank b with
  | true => simp [cur_blank c i b h hb]
  | false => simpa using cur_in c i b h hb
theorem cur_zero (c : B) : (run (c.take 0)).cur = [] := by simp [run, st0]
/-- how far a row reaches in which all is p -/
theorem takeWhile_upto {p : UInt8 → Bool} (l : B) (k : Nat) (hk : k ≤ l.length) (h : ∀ j c, j < k → l[j]? = some c → p c = true) (he : ∀ c, l[k]? = some c → p c = false) : l.takeWhile p = l.take k := by
  induction l generalizing k with
  | nil => simp
  | cons a r ih =>
    cases k with
    | zero =>
      have := he a rfl
      simp [this]
    | succ k =>
      have h0 := h 0 a (by omega) rfl
      rw [List.takeWhile_cons, if_pos h0, List.take_succ_cons, ih k (by simpa using hk) (fun j c hj hc => h (j + 1) c (by omega) (by simpa using hc)) (fun c hc => he c (by simpa using hc))]
theorem code_upto (s : B) (k : Nat) (hk : k ≤ s.length) (h : ∀ j c, j < k → s[j]? = some c → c ≠ 35) (he : ∀ c, s[k]? = some c → c = 35) : code s = s.take k :=
  takeWhile_upto s k hk (fun j c hj hc => by simpa using h j c hj hc) (fun c hc => by simpa using he c hc)
end Go.Proofs.YtkijckccfookeaaGreatDoor
/- Plain Lean: a source cut at its bytes 10, seen from a place; rows of words that come back. -/
namespace Go.Proofs.YtkijckccfookeaaGreatDoor
open Go.RowKit

theorem pcs_cut (s : B) (fr i : Nat) (h : s[i]? = some 10) (hf : fr ≤ i) (hn : ∀ c ∈ (s.take i).drop fr, c ≠ 10) : pcs (s.drop fr) = (s.take i).drop fr :: pcs (s.drop (i + 1)) := by
  have hi := (List.getElem?_eq_some_iff.1 h).1
  have e : s.drop fr = (s.take i).drop fr ++ 10 :: s.drop (i + 1) := by
    rw [← drop_cons s i 10 h]
    conv => lhs; rw [← List.take_append_drop i s]
    rw [List.drop_append_of_le_length (by rw [List.length_take]; omega)]
  rw [e, pcs_app _ _ hn]
theorem pcs_last (s : B) (fr : Nat) (hn : ∀ c ∈ (s.take s.length).drop fr, c ≠ 10) : pcs (s.drop fr) = [(s.take s.length).drop fr] := by
  rw [List.take_length] at hn ⊢
  exact pcs_none _ hn
theorem no10_snoc (s : B) (fr i : Nat) (c : UInt8) (h : s[i]? = some c) (hf : fr ≤ i) (hc : c ≠ 10) (hn : ∀ c ∈ (s.take i).drop fr, c ≠ 10) : ∀ c ∈ (s.take (i + 1)).drop fr, c ≠ 10 := by
  have hi := (List.getElem?_eq_some_iff.1 h).1
  rw [take_snoc s i c h, List.drop_append_of_le_length (by rw [List.length_take]; omega)]
  intro d hd
  rw [List.mem_append] at hd
  rcases hd with hd | hd
  · exact hn d hd
  · simp at hd
    subst hd
    exact hc
theorem no10_nil (s : B) (i : Nat) : ∀ c ∈ (s.take i).drop i, c ≠ 10 := by
  intro c hc
  rw [List.drop_eq_nil_of_le (by rw [List.length_take]; omega)] at hc
  simp at hc
theorem linesFrom_snoc (done : List B) (p : B) : linesFrom 1 (done ++ [p]) = linesFrom 1 done ++ if one p = [] then [] else [num (done.length + 1) (one p)] := by
  rw [linesFrom_app]
  simp [linesFrom]
  rw [Nat.add_comm]
theorem linesFrom_len (n : Nat) (done : List B) : (linesFrom n done).length ≤ done.length := by
  induction done generalizing n with
  | nil => simp [linesFrom]
  | cons p ps ih =>
    have := ih (n + 1)
    rw [linesFrom, List.length_append]
    split <;> simp <;> omega
theorem num_len (n : Nat) (l : List (Nat × B)) : (num n l).length = l.length := by simp [num]
/-- rows of words come back: t the words' type, tr the rows' -/
def RetRows (t tr : TypeId) (w w' : World) (rows : List (List P3)) (v : Value) : Prop :=
  ∃ A c hs, v = .slice A rows.length c ∧ RdT w' tr A rows.length 1 hs ∧ RowsIn t w' hs rows ∧ Below w.heap.size w w'
theorem run_told_len (l : B) : (run l).all.length ≤ l.length := by
  suffices h : ∀ k, k ≤ l.length → (run (l.take k)).all.length ≤ k by simpa using h l.length (Nat.le_refl _)
  intro k
  induction k with
  | zero => intro _; simp [run, st0, St.all, St.pend]
  | succ k ih =>
    intro hk
    have e : l.take (k + 1) = l.take k ++ [l[k]] := by rw [List.take_succ_eq_append_getElem (by omega)]
    have := ih (by omega)
    rw [e, run_snoc]
    unfold step
    split
    · simp [St.all, St.pend] at this ⊢; omega
    · simp only [St.all, St.pend, List.append_eq_nil_iff, List.cons_ne_nil, and_false, if_false, List.length_append, List.length_cons, List.length_nil] at this ⊢
      omega
theorem one_len (l : B) : (one l).length ≤ l.length := by
  unfold one code
  exact Nat.le_trans (run_told_len _) (List.takeWhile_sublist _).length_le
/-- the rows stand behind a header that was appended, for the headers' block is of another type -/
theorem RowsIn.grown {t tr : TypeId} {w w' : World} {hs : List Value} {rows : List (List P3)} {base n size : Nat} {v : Value} {xs : List Value} (h : RowsIn t w hs rows) (ho : w.ownsRow base tr size v n xs) (hg : w.grownBy w' v.ownBlock) (hne : t ≠ tr) : RowsIn t w' hs rows :=
  h.kept fun _ _ _ hr => hr.grown hg fun g e => by
    obtain ⟨cur, hk⟩ := own_bk ho g e
    exact ⟨cur, tr, hk, hne⟩
theorem RdT.alloc {w : World} {t : TypeId} {A : Option Addr} {n size : Nat} {cs : List Value} (h : RdT w t A n size cs) (o : Obj) : RdT (w.alloc o) t A n size cs := h.below ((Below.refl _ _).alloc (Nat.le_refl _) _)
theorem RowsIn.alloc {t : TypeId} {w : World} {hs : List Value} {rows : List (List P3)} (h : RowsIn t w hs rows) (o : Obj) : RowsIn t (w.alloc o) hs rows := h.kept fun _ _ _ hr => hr.alloc o
end Go.Proofs.YtkijckccfookeaaGreatDoor
/- Plain Lean: rows of words between brackets; what a reading of them keeps in memory. -/
namespace Go.Proofs.YtkijckccfookeaaGreatDoor
open Go.RowKit

def setsGo : Bool → List P3 → List (List P3) → List P3 → Option (List (List P3))
  | op, _, told, [] => if op then none else some told
  | op, row, told, w :: r =>
    if w.2.2 = [91] then (if op then none else setsGo true [] told r)
    else if w.2.2 = [93] then (if op then setsGo false [] (told ++ [row]) r else none)
    else if op then setsGo true (row ++ [w]) told r
    else setsGo false [] (told ++ [[w]]) r
def setsL (ws : List P3) : Option (List (List P3)) := setsGo false [] [] ws
theorem go_open (told : List (List P3)) (w : P3) (r : List P3) (h : w.2.2 = [91]) : setsGo false [] told (w :: r) = setsGo true [] told r := by
  rw [setsGo, if_pos h]; simp
theorem go_open_bad (row : List P3) (told : List (List P3)) (w : P3) (r : List P3) (h : w.2.2 = [91]) : setsGo true row told (w :: r) = none := by
  rw [setsGo, if_pos h]; simp
theorem go_close (row : List P3) (told : List (List P3)) (w : P3) (r : List P3) (h : w.2.2 = [93]) : setsGo true row told (w :: r) = setsGo false [] (told ++ [row]) r := by
  rw [setsGo, if_neg (by rw [h]; decide), if_pos h]; simp
theorem go_close_bad (told : List (List P3)) (w : P3) (r : List P3) (h : w.2.2 = [93]) : setsGo false [] told (w :: r) = none := by
  rw [setsGo, if_neg (by rw [h]; decide), if_pos h]; simp
theorem go_in (row : List P3) (told : List (List P3)) (w : P3) (r : List P3) (h1 : w.2.2 ≠ [91]) (h2 : w.2.2 ≠ [93]) : setsGo true row told (w :: r) = setsGo true (row ++ [w]) told r := by
  rw [setsGo, if_neg h1, if_neg h2]; simp
theorem go_alone (told : List (List P3)) (w : P3) (r : List P3) (h1 : w.2.2 ≠ [91]) (h2 : w.2.2 ≠ [93]) : setsGo false [] told (w :: r) = setsGo false [] (told ++ [[w]]) r := by
  rw [setsGo, if_neg h1, if_neg h2]; simp
theorem dropW (ws : List P3) (k : Nat) (w : P3) (h : ws[k]? = some w) : ws.drop k = w :: ws.drop (k + 1) := by
  obtain ⟨hk, hg⟩ := List.getElem?_eq_some_iff.1 h
  rw [List.drop_eq_getElem_cons hk, hg]
def SetsPost (t tr : TypeId) (w : World) (ws : List P3) (e : Ending) (w' : World) : Prop :=
  match setsL ws with
  | none => e = .returned (.tuple #[.slice none 0 0, .bool false]) ∧ Below w.heap.size w w'
  | some rows => ∃ v, e = .returned (.tuple #[v, .bool true]) ∧ RetRows t tr w w' rows v
theorem setsPost_no {t tr : TypeId} {w : World} {ws : List P3} {w' : World} (h : setsL ws = none) (hb : Below w.heap.size w w') : SetsPost t tr w ws (.returned (.tuple #[.slice none 0 0, .bool false])) w' := by
  unfold SetsPost
  rw [h]
  exact ⟨rfl, hb⟩
/-- between two rounds, no bracket open -/
def SetsShut (t tr : TypeId) (w : World) (ws : List P3) (k : Nat) (v4 : Value) (wr : World) : Prop :=
  ∃ told hs, hs.length ≤ k ∧ setsGo false [] told (ws.drop k) = setsL ws ∧ wr.ownsRow w.heap.size tr 1 v4 hs.length hs ∧ RowsIn t wr hs told ∧ Below w.heap.size w wr
/-- between two rounds, a bracket open -/
def SetsOpen (t tr : TypeId) (w : World) (ws : List P3) (k : Nat) (v4 v5 : Value) (wr : World) : Prop :=
  ∃ told hs row Wo, hs.length ≤ k ∧ row.length ≤ k ∧ setsGo true row told (ws.drop k) = setsL ws ∧ Wo.ownsRow w.heap.size tr 1 v4 hs.length hs ∧ RowsIn t Wo hs told ∧ Below w.heap.size w Wo ∧
    Below Wo.heap.size Wo wr ∧ wr.ownsRow Wo.heap.size t 3 v5 row.length (c3s row)
theorem setsShut_start (t tr : TypeId) (w : World) (ws : List P3) (v4 : Value) (wr : World) (h : wr.ownsRow w.heap.size tr 1 v4 0 []) (hb : Below w.heap.size w wr) : SetsShut t tr w ws 0 v4 wr :=
  ⟨[], [], by simp, by simp [setsL], h, RowsIn.nil _ _, hb⟩
theorem setsShut_end {t tr : TypeId} {w : World} {ws : List P3} {k n c : Nat} {A : Option Addr} {wr : World} (h : SetsShut t tr w ws k (.slice A n c) wr) (hk : ws.length ≤ k) : SetsPost t tr w ws (.returned (.tuple #[.slice A n c, .bool true])) wr := by
  obtain ⟨told, hs, -, h2, h3, h4, h5⟩ := h
  rw [List.drop_eq_nil_of_le hk, setsGo] at h2
  obtain ⟨A', c', e, -⟩ := Rd.of_own h3
  simp only [Value.slice.injEq] at e
  obtain ⟨rfl, rfl, rfl⟩ := e
  have hl : hs.length = told.length := h4.1
  unfold SetsPost
  rw [← h2]
  refine ⟨_, rfl, A, c, hs, by rw [hl], ?_, h4, h5⟩
  rw [← hl]
  exact own_rdT h3
theorem setsOpen_end {t tr : TypeId} {w : World} {ws : List P3} {k : Nat} {v4 v5 : Value} {wr : World} (h : SetsOpen t tr w ws k v4 v5 wr) (hk : ws.length ≤ k) : setsL ws = none ∧ Below w.heap.size w wr := by
  obtain ⟨told, hs, row, Wo, -, -, h3, h4, h5, h6, h7, h8⟩ := h
  rw [List.drop_eq_nil_of_le hk, setsGo] at h3
  exact ⟨by rw [← h3]; rfl, h6.trans (h7.mono h6.size)⟩
theorem setsShut_open {t tr : TypeId} {w : World} {ws : List P3} {k : Nat} {v4 v5 : Value} {wr W1 : World} (h : SetsShut t tr w ws k v4 wr) {p : P3} (hp : ws[k]? = some p) (h91 : p.2.2 = [91]) (hb : Below wr.heap.size wr W1) (W2 : World) (h5 : W2.ownsRow W1.heap.size t 3 v5 0 []) (hb2 : Below W1.heap.size W1 W2) : SetsOpen t tr w ws (k + 1) v4 v5 W2 := by
  obtain ⟨told, hs, h1, h2, h3, h4, h6⟩ := h
  refine ⟨told, hs, [], W1, by omega, by simp, ?_, own_below h3 hb, h4.below hb, h6.trans (hb.mono h6.size), hb2, h5⟩
  rw [← h2, dropW ws k p hp, go_open _ _ _ h91]
theorem setsShut_bad {t tr : TypeId} {w : World} {ws : List P3} {k : Nat} {v4 : Value} {wr W1 : World} (h : SetsShut t tr w ws k v4 wr) {p : P3} (hp : ws[k]? = some p) (h93 : p.2.2 = [93]) (hb : Below wr.heap.size wr W1) : SetsPost t tr w ws (.returned (.tuple #[.slice none 0 0, .bool false])) W1 := by
  obtain ⟨told, hs, h1, h2, h3, h4, h6⟩ := h
  refine setsPost_no ?_ (h6.trans (hb.mono h6.size))
  rw [← h2, dropW ws k p hp, go_close_bad _ _ _ h93]
theorem setsOpen_bad {t tr : TypeId} {w : World} {ws : List P3} {k : Nat} {v4 v5 : Value} {wr W1 : World} (h : SetsOpen t tr w ws k v4 v5 wr) {p : P3} (hp : ws[k]? = some p) (h91 : p.2.2 = [91]) (hb : Below wr.heap.size wr W1) : SetsPost t tr w ws (.returned (.tuple #[.slice none 0 0, .bool false])) W1 := by
  obtain ⟨told, hs, row, Wo, h1, h2, h3, h4, h5, h6, h7, h8⟩ := h
  have s1 := h6.size
  have s2 := h7.size
  refine setsPost_no ?_ ((h6.trans (h7.mono s1)).trans (hb.mono (by omega)))
  rw [← h3, dropW ws k p hp, go_open_bad _ _ _ _ h91]
/-- a word more in the open row -/
theorem setsOpen_in {t tr : TypeId} {w : World} {ws : List P3} {k : Nat} {v4 v5 v6 : Value} {wr W1 W2 : World} {told : List (List P3)} {hs : List Value} {row : List P3} {Wo : World} (h1 : hs.length ≤ k) (h2 : row.length ≤ k) (h3 : setsGo true row told (ws.drop k) = setsL ws) (h4 : Wo.ownsRow w.heap.size tr 1 v4 hs.length hs) (h5 : RowsIn t Wo hs told) (h6 : Below w.heap.size w Wo)
    (h7 : Below Wo.heap.size Wo wr) (h8 : wr.ownsRow Wo.heap.size t 3 v5 row.length (c3s row)) {p : P3} (hp : ws[k]? = some p) (h91 : p.2.2 ≠ [91]) (h93 : p.2.2 ≠ [93]) (hb : Below wr.heap.size wr W1) (hown : W2.ownsRow Wo.heap.size t 3 v6 (row.length + 1) (c3s row ++ c3 p)) (hg : W1.grownBy W2 v5.ownBlock) : SetsOpen t tr w ws (k + 1) v4 v6 W2 := by
  refine ⟨told, hs, row ++ [p], Wo, by omega, by simp; omega, ?_, h4, h5, h6, ?_, ?_⟩
  · rw [← h3, dropW ws k p hp, go_in _ _ _ _ h91 h93]
  · have s2 := h7.size
    have s3 := hb.size
    exact (h7.trans (hb.mono s2)).grown hg (by omega) (fun g e => (h8.lt g e).1)
  · rw [c3s_append, List.length_append]
    simpa [c3s] using hown
/-- the open row is told -/
theorem setsOpen_close {t tr : TypeId} {w : World} {ws : List P3} {k n5 c5 : Nat} {A5 : Option Addr} {v4 v6 : Value} {wr W1 W2 : World} {told : List (List P3)} {hs : List Value} {row : List P3} {Wo : World} (h1 : hs.length ≤ k) (h3 : setsGo true row told (ws.drop k) = setsL ws) (h4 : Wo.ownsRow w.heap.size tr 1 v4 hs.length hs) (h5 : RowsIn t Wo hs told) (h6 : Below w.heap.size w Wo)
    (h7 : Below Wo.heap.size Wo wr) (h8 : wr.ownsRow Wo.heap.size t 3 (.slice A5 n5 c5) row.length (c3s row)) {p : P3} (hp : ws[k]? = some p) (h93 : p.2.2 = [93]) (hb : Below wr.heap.size wr W1) (hown : W2.ownsRow w.heap.size tr 1 v6 (hs.length + 1) (hs ++ [.slice A5 n5 c5])) (hg : W1.grownBy W2 v4.ownBlock) (hne : t ≠ tr) : SetsShut t tr w ws (k + 1) v6 W2 := by
  have s1 := h6.size
  have s2 := h7.size
  have s3 := hb.size
  have hn : n5 = row.length := by
    obtain ⟨A', c', e, -⟩ := Rd.of_own h8
    simp only [Value.slice.injEq] at e
    exact e.2.1
  subst hn
  have ho : Below Wo.heap.size Wo W1 := h7.trans (hb.mono s2)
  have r1 : RowsIn t W1 (hs ++ [.slice A5 row.length c5]) (told ++ [row]) := (h5.below ho).snoc (own_rdT (own_below h8 hb)) (own_cap h8)
  refine ⟨told ++ [row], hs ++ [.slice A5 row.length c5], by simp; omega, ?_, by simpa using hown, ?_, ?_⟩
  · rw [← h3, dropW ws k p hp, go_close _ _ _ _ h93]
  · exact r1.grown (own_below h4 ho) hg hne
  · exact (h6.trans (ho.mono s1)).grown hg (by omega) (fun g e => (h4.lt g e).1)
/-- a word alone is told -/
theorem setsShut_alone {t tr : TypeId} {w : World} {ws : List P3} {k c5 : Nat} {A5 : Option Addr} {v4 v6 : Value} {wr W1 W2 : World} {told : List (List P3)} {hs : List Value} (h1 : hs.length ≤ k) (h2 : setsGo false [] told (ws.drop k) = setsL ws) (h3 : wr.ownsRow w.heap.size tr 1 v4 hs.length hs) (h4 : RowsIn t wr hs told) (h6 : Below w.heap.size w wr)
    {p : P3} (hp : ws[k]? = some p) (h91 : p.2.2 ≠ [91]) (h93 : p.2.2 ≠ [93]) (hb : Below wr.heap.size wr W1) (hr : RdT W1 t A5 1 3 (c3s [p])) (h15 : 1 ≤ c5) (hown : W2.ownsRow w.heap.size tr 1 v6 (hs.length + 1) (hs ++ [.slice A5 1 c5])) (hg : W1.grownBy W2 v4.ownBlock) (hne : t ≠ tr) : SetsShut t tr w ws (k + 1) v6 W2 := by
  have s1 := h6.size
  have s3 := hb.size
  have r1 : RowsIn t W1 (hs ++ [.slice A5 1 c5]) (told ++ [[p]]) := (h4.below hb).snoc hr h15
  refine ⟨told ++ [[p]], hs ++ [.slice A5 1 c5], by simp; omega, ?_, by simpa using hown, ?_, ?_⟩
  · rw [← h2, dropW ws k p hp, go_alone _ _ _ h91 h93]
  · exact r1.grown (own_below h3 hb) hg hne
  · exact (h6.trans (hb.mono s1)).grown hg (by omega) (fun g e => (h3.lt g e).1)
theorem RdT.new (w : World) (cs : Array Value) (t : TypeId) (n size : Nat) (h : cs.size = n * size) : RdT (w.alloc (.cells cs t)) t (some ⟨w.heap.size, 0, none⟩) n size cs.toList :=
  ⟨by simpa using h, fun _ => ⟨_, 0, cs, rfl, Bk.new w t cs, fun j u hu => by simpa using hu⟩⟩
end Go.Proofs.YtkijckccfookeaaGreatDoor
