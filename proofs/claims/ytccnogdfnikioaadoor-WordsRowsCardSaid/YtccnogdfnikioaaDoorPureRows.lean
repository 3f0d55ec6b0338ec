/- Plain Lean: rows written with brackets are read as they are; with a bracket more they are wrong. -/
import Derived.Test.YtccnogdfnikioaaDoorPureSets
import Derived.Test.YtccnogdfnikioaaDoorTame
namespace Go.Proofs.YtccnogdfnikioaaDoor
open Go.RowKit

def wd (t : B) : P3 := (0, 0, t)
def opn (x : P3) : Bool := decide (x.2.2 = [91])
def cls (x : P3) : Bool := decide (x.2.2 = [93])
/-- brackets are as many that open as that close -/
theorem setsGo_count (ws : List P3) : ∀ (op : Bool) (row : List P3) (told rows : List (List P3)), setsGo op row told ws = some rows → ws.countP opn + (if op then 1 else 0) = ws.countP cls := by
  induction ws with
  | nil =>
    intro op row told rows h
    rw [setsGo] at h
    cases op with
    | true => simp at h
    | false => rfl
  | cons w r ih =>
    intro op row told rows h
    rw [setsGo] at h
    rw [List.countP_cons, List.countP_cons]
    split at h
    · rename_i h91
      have e1 : opn w = true := by simp [opn, h91]
      have e2 : cls w = false := by simp [cls, h91]
      cases op with
      | true => simp at h
      | false =>
        have := ih _ _ _ _ h
        simp [e1, e2] at this ⊢
        omega
    · rename_i h91
      have e1 : opn w = false := by simp [opn, h91]
      split at h
      · rename_i h93
        have e2 : cls w = true := by simp [cls, h93]
        cases op with
        | true =>
          have := ih _ _ _ _ h
          simp [e1, e2] at this ⊢
          omega
        | false => simp at h
      · rename_i h93
        have e2 : cls w = false := by simp [cls, h93]
        cases op with
        | true =>
          have := ih _ _ _ _ h
          simp [e1, e2] at this ⊢
          omega
        | false =>
          have := ih _ _ _ _ h
          simp [e1, e2] at this ⊢
          omega
theorem setsL_more (ws : List P3) (rows : List (List P3)) (h : setsL ws = some rows) (k : Nat) (x : P3) (hx : x.2.2 = [91] ∨ x.2.2 = [93]) : setsL (ws.take k ++ [x] ++ ws.drop k) = none := by
  cases hm : setsL (ws.take k ++ [x] ++ ws.drop k) with
  | none => rfl
  | some rows' =>
    exfalso
    have h1 := setsGo_count _ _ _ _ _ h
    have h2 := setsGo_count _ _ _ _ _ hm
    have e1 : ws.countP opn = (ws.take k).countP opn + (ws.drop k).countP opn := by rw [← List.countP_append, List.take_append_drop]
    have e2 : ws.countP cls = (ws.take k).countP cls + (ws.drop k).countP cls := by rw [← List.countP_append, List.take_append_drop]
    simp only [List.countP_append, List.countP_cons, List.countP_nil] at h2
    rcases hx with hx | hx
    · have a1 : opn x = true := by simp [opn, hx]
      have a2 : cls x = false := by simp [cls, hx]
      simp [a1, a2] at h1 h2
      omega
    · have a1 : opn x = false := by simp [opn, hx]
      have a2 : cls x = true := by simp [cls, hx]
      simp [a1, a2] at h1 h2
      omega
def noBr (x : P3) : Prop := x.2.2 ≠ [91] ∧ x.2.2 ≠ [93]
theorem go_row (ns : List P3) : ∀ (row : List P3) (told : List (List P3)) (rest : List P3), (∀ x ∈ ns, noBr x) → setsGo true row told (ns ++ wd [93] :: rest) = setsGo false [] (told ++ [row ++ ns]) rest := by
  induction ns with
  | nil =>
    intro row told rest _
    rw [List.nil_append, go_close _ _ _ _ rfl, List.append_nil]
  | cons x ns ih =>
    intro row told rest h
    obtain ⟨h1, h2⟩ := h x (by simp)
    rw [List.cons_append, go_in _ _ _ _ h1 h2, ih _ _ _ (fun y hy => h y (by simp [hy]))]
    simp
/-- the words of a row: with brackets or, if it is one word, perhaps without -/
def blk (open' : Bool) (ns : List P3) : List P3 := if open' then wd [91] :: ns ++ [wd [93]] else ns
theorem go_blk (op : Bool) (ns : List P3) (told : List (List P3)) (rest : List P3) (h : ∀ x ∈ ns, noBr x) (h1 : op = false → ns.length = 1) : setsGo false [] told (blk op ns ++ rest) = setsGo false [] (told ++ [ns]) rest := by
  cases op with
  | true =>
    have e : blk true ns ++ rest = wd [91] :: (ns ++ wd [93] :: rest) := by simp [blk]
    rw [e, go_open _ _ _ rfl, go_row ns [] told rest h, List.nil_append]
  | false =>
    have hl := h1 rfl
    obtain ⟨x, rfl⟩ := List.length_eq_one_iff.1 hl
    obtain ⟨a1, a2⟩ := h x (by simp)
    show setsGo false [] told (x :: rest) = _
    rw [go_alone _ _ _ a1 a2]
end Go.Proofs.YtccnogdfnikioaaDoor
