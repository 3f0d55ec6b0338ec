/- Plain Lean: rows of words between brackets; what a reading of them keeps in memory. -/
import Derived.Test.YtccnogdfnikioaaDoorPureLines
namespace Go.Proofs.YtccnogdfnikioaaDoor
open Go.RowKit

def setsGo : Bool → List P3 → List (List P3) → List P3 → Option (List (List P3))
  | op, _, told, [] => if op then none else some told
  | op, row, told, w :: r =>
    if w.2.2 = [91] then (if op then none else setsGo true [] told r)
    else if w.2.2 = [93] then (if op then setsGo false [] (told ++ [row]) r else none)
    else if op then setsGo true (row ++ [w]) told r
    else setsGo false [] (told ++ [[w]]) r
def setsL (ws : List P3) : Option (List (List P3)) := setsGo false [] [] ws
theorem go_open (told : List (List P3)) (w : P3) (r : List P3) (h : w.2.2 = [91]) : setsGo false [] told (w :: r) = setsGo true [] told r := by
  rw [setsGo, if_pos h]; simp
theorem go_open_bad (row : List P3) (told : List (List P3)) (w : P3) (r : List P3) (h : w.2.2 = [91]) : setsGo true row told (w :: r) = none := by
  rw [setsGo, if_pos h]; simp
theorem go_close (row : List P3) (told : List (List P3)) (w : P3) (r : List P3) (h : w.2.2 = [93]) : setsGo true row told (w :: r) = setsGo false [] (told ++ [row]) r := by
  rw [setsGo, if_neg (by rw [h]; decide), if_pos h]; simp
theorem go_close_bad (told : List (List P3)) (w : P3) (r : List P3) (h : w.2.2 = [93]) : setsGo false [] told (w :: r) = none := by
  rw [setsGo, if_neg (by rw [h]; decide), if_pos h]; simp
theorem go_in (row : List P3) (told : List (List P3)) (w : P3) (r : List P3) (h1 : w.2.2 ≠ [91]) (h2 : w.2.2 ≠ [93]) : setsGo true row told (w :: r) = setsGo true (row ++ [w]) told r := by
  rw [setsGo, if_neg h1, if_neg h2]; simp
theorem go_alone (told : List (List P3)) (w : P3) (r : List P3) (h1 : w.2.2 ≠ [91]) (h2 : w.2.2 ≠ [93]) : setsGo false [] told (w :: r) = setsGo false [] (told ++ [[w]]) r := by
  rw [setsGo, if_neg h1, if_neg h2]; simp
theorem dropW (ws : List P3) (k : Nat) (w : P3) (h : ws[k]? = some w) : ws.drop k = w :: ws.drop (k + 1) := by
  obtain ⟨hk, hg⟩ := List.getElem?_eq_some_iff.1 h
  rw [List.drop_eq_getElem_cons hk, hg]
def SetsPost (t tr : TypeId) (w : World) (ws : List P3) (e : Ending) (w' : World) : Prop :=
  match setsL ws with
  | none => e = .returned (.tuple #[.slice none 0 0, .bool false]) ∧ Below w.heap.size w w'
  | some rows => ∃ v, e = .returned (.tuple #[v, .bool true]) ∧ RetRows t tr w w' rows v
theorem setsPost_no {t tr : TypeId} {w : World} {ws : List P3} {w' : World} (h : setsL ws = none) (hb : Below w.heap.size w w') : SetsPost t tr w ws (.returned (.tuple #[.slice none 0 0, .bool false])) w' := by
  unfold SetsPost
  rw [h]
  exact ⟨rfl, hb⟩
/-- between two rounds, no bracket open -/
def SetsShut (t tr : TypeId) (w : World) (ws : List P3) (k : Nat) (v4 : Value) (wr : World) : Prop :=
  ∃ told hs, hs.length ≤ k ∧ setsGo false [] told (ws.drop k) = setsL ws ∧ wr.ownsRow w.heap.size tr 1 v4 hs.length hs ∧ RowsIn t wr hs told ∧ Below w.heap.size w wr
/-- between two rounds, a bracket open -/
def SetsOpen (t tr : TypeId) (w : World) (ws : List P3) (k : Nat) (v4 v5 : Value) (wr : World) : Prop :=
  ∃ told hs row Wo, hs.length ≤ k ∧ row.length ≤ k ∧ setsGo true row told (ws.drop k) = setsL ws ∧ Wo.ownsRow w.heap.size tr 1 v4 hs.length hs ∧ RowsIn t Wo hs told ∧ Below w.heap.size w Wo ∧
    Below Wo.heap.size Wo wr ∧ wr.ownsRow Wo.heap.size t 3 v5 row.length (c3s row)
theorem setsShut_start (t tr : TypeId) (w : World) (ws : List P3) (v4 : Value) (wr : World) (h : wr.ownsRow w.heap.size tr 1 v4 0 []) (hb : Below w.heap.size w wr) : SetsShut t tr w ws 0 v4 wr :=
  ⟨[], [], by simp, by simp [setsL], h, RowsIn.nil _ _, hb⟩
theorem setsShut_end {t tr : TypeId} {w : World} {ws : List P3} {k n c : Nat} {A : Option Addr} {wr : World} (h : SetsShut t tr w ws k (.slice A n c) wr) (hk : ws.length ≤ k) : SetsPost t tr w ws (.returned (.tuple #[.slice A n c, .bool true])) wr := by
  obtain ⟨told, hs, -, h2, h3, h4, h5⟩ := h
  rw [List.drop_eq_nil_of_le hk, setsGo] at h2
  obtain ⟨A', c', e, -⟩ := Rd.of_own h3
  simp only [Value.slice.injEq] at e
  obtain ⟨rfl, rfl, rfl⟩ := e
  have hl : hs.length = told.length := h4.1
  unfold SetsPost
  rw [← h2]
  refine ⟨_, rfl, A, c, hs, by rw [hl], ?_, h4, h5⟩
  rw [← hl]
  exact own_rdT h3
theorem setsOpen_end {t tr : TypeId} {w : World} {ws : List P3} {k : Nat} {v4 v5 : Value} {wr : World} (h : SetsOpen t tr w ws k v4 v5 wr) (hk : ws.length ≤ k) : setsL ws = none ∧ Below w.heap.size w wr := by
  obtain ⟨told, hs, row, Wo, -, -, h3, h4, h5, h6, h7, h8⟩ := h
  rw [List.drop_eq_nil_of_le hk, setsGo] at h3
  exact ⟨by rw [← h3]; rfl, h6.trans (h7.mono h6.size)⟩
theorem setsShut_open {t tr : TypeId} {w : World} {ws : List P3} {k : Nat} {v4 v5 : Value} {wr W1 : World} (h : SetsShut t tr w ws k v4 wr) {p : P3} (hp : ws[k]? = some p) (h91 : p.2.2 = [91]) (hb : Below wr.heap.size wr W1) (W2 : World) (h5 : W2.ownsRow W1.heap.size t 3 v5 0 []) (hb2 : Below W1.heap.size W1 W2) : SetsOpen t tr w ws (k + 1) v4 v5 W2 := by
  obtain ⟨told, hs, h1, h2, h3, h4, h6⟩ := h
  refine ⟨told, hs, [], W1, by omega, by simp, ?_, own_below h3 hb, h4.below hb, h6.trans (hb.mono h6.size), hb2, h5⟩
  rw [← h2, dropW ws k p hp, go_open _ _ _ h91]
theorem setsShut_bad {t tr : TypeId} {w : World} {ws : List P3} {k : Nat} {v4 : Value} {wr W1 : World} (h : SetsShut t tr w ws k v4 wr) {p : P3} (hp : ws[k]? = some p) (h93 : p.2.2 = [93]) (hb : Below wr.heap.size wr W1) : SetsPost t tr w ws (.returned (.tuple #[.slice none 0 0, .bool false])) W1 := by
  obtain ⟨told, hs, h1, h2, h3, h4, h6⟩ := h
  refine setsPost_no ?_ (h6.trans (hb.mono h6.size))
  rw [← h2, dropW ws k p hp, go_close_bad _ _ _ h93]
theorem setsOpen_bad {t tr : TypeId} {w : World} {ws : List P3} {k : Nat} {v4 v5 : Value} {wr W1 : World} (h : SetsOpen t tr w ws k v4 v5 wr) {p : P3} (hp : ws[k]? = some p) (h91 : p.2.2 = [91]) (hb : Below wr.heap.size wr W1) : SetsPost t tr w ws (.returned (.tuple #[.slice none 0 0, .bool false])) W1 := by
  obtain ⟨told, hs, row, Wo, h1, h2, h3, h4, h5, h6, h7, h8⟩ := h
  have s1 := h6.size
  have s2 := h7.size
  refine setsPost_no ?_ ((h6.trans (h7.mono s1)).trans (hb.mono (by omega)))
  rw [← h3, dropW ws k p hp, go_open_bad _ _ _ _ h91]
/-- a word more in the open row -/
theorem setsOpen_in {t tr : TypeId} {w : World} {ws : List P3} {k : Nat} {v4 v5 v6 : Value} {wr W1 W2 : World} {told : List (List P3)} {hs : List Value} {row : List P3} {Wo : World} (h1 : hs.length ≤ k) (h2 : row.length ≤ k) (h3 : setsGo true row told (ws.drop k) = setsL ws) (h4 : Wo.ownsRow w.heap.size tr 1 v4 hs.length hs) (h5 : RowsIn t Wo hs told) (h6 : Below w.heap.size w Wo)
    (h7 : Below Wo.heap.size Wo wr) (h8 : wr.ownsRow Wo.heap.size t 3 v5 row.length (c3s row)) {p : P3} (hp : ws[k]? = some p) (h91 : p.2.2 ≠ [91]) (h93 : p.2.2 ≠ [93]) (hb : Below wr.heap.size wr W1) (hown : W2.ownsRow Wo.heap.size t 3 v6 (row.length + 1) (c3s row ++ c3 p)) (hg : W1.grownBy W2 v5.ownBlock) : SetsOpen t tr w ws (k + 1) v4 v6 W2 := by
  refine ⟨told, hs, row ++ [p], Wo, by omega, by simp; omega, ?_, h4, h5, h6, ?_, ?_⟩
  · rw [← h3, dropW ws k p hp, go_in _ _ _ _ h91 h93]
  · have s2 := h7.size
    have s3 := hb.size
    exact (h7.trans (hb.mono s2)).grown hg (by omega) (fun g e => (h8.lt g e).1)
  · rw [c3s_append, List.length_append]
    simpa [c3s] using hown
/-- the open row is told -/
theorem setsOpen_close {t tr : TypeId} {w : World} {ws : List P3} {k n5 c5 : Nat} {A5 : Option Addr} {v4 v6 : Value} {wr W1 W2 : World} {told : List (List P3)} {hs : List Value} {row : List P3} {Wo : World} (h1 : hs.length ≤ k) (h3 : setsGo true row told (ws.drop k) = setsL ws) (h4 : Wo.ownsRow w.heap.size tr 1 v4 hs.length hs) (h5 : RowsIn t Wo hs told) (h6 : Below w.heap.size w Wo)
    (h7 : Below Wo.heap.size Wo wr) (h8 : wr.ownsRow Wo.heap.size t 3 (.slice A5 n5 c5) row.length (c3s row)) {p : P3} (hp : ws[k]? = some p) (h93 : p.2.2 = [93]) (hb : Below wr.heap.size wr W1) (hown : W2.ownsRow w.heap.size tr 1 v6 (hs.length + 1) (hs ++ [.slice A5 n5 c5])) (hg : W1.grownBy W2 v4.ownBlock) (hne : t ≠ tr) : SetsShut t tr w ws (k + 1) v6 W2 := by
  have s1 := h6.size
  have s2 := h7.size
  have s3 := hb.size
  have hn : n5 = row.length := by
    obtain ⟨A', c', e, -⟩ := Rd.of_own h8
    simp only [Value.slice.injEq] at e
    exact e.2.1
  subst hn
  have ho : Below Wo.heap.size Wo W1 := h7.trans (hb.mono s2)
  have r1 : RowsIn t W1 (hs ++ [.slice A5 row.length c5]) (told ++ [row]) := (h5.below ho).snoc (own_rdT (own_below h8 hb))
  refine ⟨told ++ [row], hs ++ [.slice A5 row.length c5], by simp; omega, ?_, by simpa using hown, ?_, ?_⟩
  · rw [← h3, dropW ws k p hp, go_close _ _ _ _ h93]
  · exact r1.grown (own_below h4 ho) hg hne
  · exact (h6.trans (ho.mono s1)).grown hg (by omega) (fun g e => (h4.lt g e).1)
/-- a word alone is told -/
theorem setsShut_alone {t tr : TypeId} {w : World} {ws : List P3} {k c5 : Nat} {A5 : Option Addr} {v4 v6 : Value} {wr W1 W2 : World} {told : List (List P3)} {hs : List Value} (h1 : hs.length ≤ k) (h2 : setsGo false [] told (ws.drop k) = setsL ws) (h3 : wr.ownsRow w.heap.size tr 1 v4 hs.length hs) (h4 : RowsIn t wr hs told) (h6 : Below w.heap.size w wr)
    {p : P3} (hp : ws[k]? = some p) (h91 : p.2.2 ≠ [91]) (h93 : p.2.2 ≠ [93]) (hb : Below wr.heap.size wr W1) (hr : RdT W1 t A5 1 3 (c3s [p])) (hown : W2.ownsRow w.heap.size tr 1 v6 (hs.length + 1) (hs ++ [.slice A5 1 c5])) (hg : W1.grownBy W2 v4.ownBlock) (hne : t ≠ tr) : SetsShut t tr w ws (k + 1) v6 W2 := by
  have s1 := h6.size
  have s3 := hb.size
  have r1 : RowsIn t W1 (hs ++ [.slice A5 1 c5]) (told ++ [[p]]) := (h4.below hb).snoc hr
  refine ⟨told ++ [[p]], hs ++ [.slice A5 1 c5], by simp; omega, ?_, by simpa using hown, ?_, ?_⟩
  · rw [← h2, dropW ws k p hp, go_alone _ _ _ h91 h93]
  · exact r1.grown (own_below h3 hb) hg hne
  · exact (h6.trans (hb.mono s1)).grown hg (by omega) (fun g e => (h3.lt g e).1)
theorem RdT.new (w : World) (cs : Array Value) (t : TypeId) (n size : Nat) (h : cs.size = n * size) : RdT (w.alloc (.cells cs t)) t (some ⟨w.heap.size, 0, none⟩) n size cs.toList :=
  ⟨by simpa using h, fun _ => ⟨_, 0, cs, rfl, Bk.new w t cs, fun j u hu => by simpa using hu⟩⟩
end Go.Proofs.YtccnogdfnikioaaDoor
