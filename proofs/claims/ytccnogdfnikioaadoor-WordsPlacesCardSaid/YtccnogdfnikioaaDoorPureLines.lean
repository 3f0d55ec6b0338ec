/- Plain Lean: a source cut at its bytes 10, seen from a place; rows of words that come back. -/
import Derived.Test.YtccnogdfnikioaaDoorPureOne
import Derived.Test.YtccnogdfnikioaaDoorMem2
namespace Go.Proofs.YtccnogdfnikioaaDoor
open Go.RowKit

theorem pcs_cut (s : B) (fr i : Nat) (h : s[i]? = some 10) (hf : fr ≤ i) (hn : ∀ c ∈ (s.take i).drop fr, c ≠ 10) : pcs (s.drop fr) = (s.take i).drop fr :: pcs (s.drop (i + 1)) := by
  have hi := (List.getElem?_eq_some_iff.1 h).1
  have e : s.drop fr = (s.take i).drop fr ++ 10 :: s.drop (i + 1) := by
    rw [← drop_cons s i 10 h]
    conv => lhs; rw [← List.take_append_drop i s]
    rw [List.drop_append_of_le_length (by rw [List.length_take]; omega)]
  rw [e, pcs_app _ _ hn]
theorem pcs_last (s : B) (fr : Nat) (hn : ∀ c ∈ (s.take s.length).drop fr, c ≠ 10) : pcs (s.drop fr) = [(s.take s.length).drop fr] := by
  rw [List.take_length] at hn ⊢
  exact pcs_none _ hn
theorem no10_snoc (s : B) (fr i : Nat) (c : UInt8) (h : s[i]? = some c) (hf : fr ≤ i) (hc : c ≠ 10) (hn : ∀ c ∈ (s.take i).drop fr, c ≠ 10) : ∀ c ∈ (s.take (i + 1)).drop fr, c ≠ 10 := by
  have hi := (List.getElem?_eq_some_iff.1 h).1
  rw [take_snoc s i c h, List.drop_append_of_le_length (by rw [List.length_take]; omega)]
  intro d hd
  rw [List.mem_append] at hd
  rcases hd with hd | hd
  · exact hn d hd
  · simp at hd
    subst hd
    exact hc
theorem no10_nil (s : B) (i : Nat) : ∀ c ∈ (s.take i).drop i, c ≠ 10 := by
  intro c hc
  rw [List.drop_eq_nil_of_le (by rw [List.length_take]; omega)] at hc
  simp at hc
theorem linesFrom_snoc (done : List B) (p : B) : linesFrom 1 (done ++ [p]) = linesFrom 1 done ++ if one p = [] then [] else [num (done.length + 1) (one p)] := by
  rw [linesFrom_app]
  simp [linesFrom]
  rw [Nat.add_comm]
theorem linesFrom_len (n : Nat) (done : List B) : (linesFrom n done).length ≤ done.length := by
  induction done generalizing n with
  | nil => simp [linesFrom]
  | cons p ps ih =>
    have := ih (n + 1)
    rw [linesFrom, List.length_append]
    split <;> simp <;> omega
theorem num_len (n : Nat) (l : List (Nat × B)) : (num n l).length = l.length := by simp [num]
/-- rows of words come back: t the words' type, tr the rows' -/
def RetRows (t tr : TypeId) (w w' : World) (rows : List (List P3)) (v : Value) : Prop :=
  ∃ A c hs, v = .slice A rows.length c ∧ RdT w' tr A rows.length 1 hs ∧ RowsIn t w' hs rows ∧ Below w.heap.size w w'
theorem run_told_len (l : B) : (run l).all.length ≤ l.length := by
  suffices h : ∀ k, k ≤ l.length → (run (l.take k)).all.length ≤ k by simpa using h l.length (Nat.le_refl _)
  intro k
  induction k with
  | zero => intro _; simp [run, st0, St.all, St.pend]
  | succ k ih =>
    intro hk
    have e : l.take (k + 1) = l.take k ++ [l[k]] := by rw [List.take_succ_eq_append_getElem (by omega)]
    have := ih (by omega)
    rw [e, run_snoc]
    unfold step
    split
    · simp [St.all, St.pend] at this ⊢; omega
    · simp only [St.all, St.pend, List.append_eq_nil_iff, List.cons_ne_nil, and_false, if_false, List.length_append, List.length_cons, List.length_nil] at this ⊢
      omega
theorem one_len (l : B) : (one l).length ≤ l.length := by
  unfold one code
  exact Nat.le_trans (run_told_len _) (List.takeWhile_sublist _).length_le
/-- the rows stand behind a header that was appended, for the headers' block is of another type -/
theorem RowsIn.grown {t tr : TypeId} {w w' : World} {hs : List Value} {rows : List (List P3)} {base n size : Nat} {v : Value} {xs : List Value} (h : RowsIn t w hs rows) (ho : w.ownsRow base tr size v n xs) (hg : w.grownBy w' v.ownBlock) (hne : t ≠ tr) : RowsIn t w' hs rows :=
  h.kept fun _ _ _ hr => hr.grown hg fun g e => by
    obtain ⟨cur, hk⟩ := own_bk ho g e
    exact ⟨cur, tr, hk, hne⟩
theorem RdT.alloc {w : World} {t : TypeId} {A : Option Addr} {n size : Nat} {cs : List Value} (h : RdT w t A n size cs) (o : Obj) : RdT (w.alloc o) t A n size cs := h.below ((Below.refl _ _).alloc (Nat.le_refl _) _)
theorem RowsIn.alloc {t : TypeId} {w : World} {hs : List Value} {rows : List (List P3)} (h : RowsIn t w hs rows) (o : Obj) : RowsIn t (w.alloc o) hs rows := h.kept fun _ _ _ hr => hr.alloc o
end Go.Proofs.YtccnogdfnikioaaDoor
