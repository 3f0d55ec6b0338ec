/- Memory words: rows of data read through a relation, in a set of blocks. Plain facts, no program. -/
import Derived.Test.YtkijckccfookeaaDoorMem2
namespace Go.Proofs.YtkijckccfookeaaDoor
open Go.RowKit

abbrev Bs := Nat → Prop
abbrev Rel (α : Type) := World → Bs → List Value → α → Prop
/-- the blocks of S are as they were -/
def Same (S : Bs) (w w' : World) : Prop := ∀ b, S b → w'.heap[b]? = w.heap[b]?
theorem Same.refl (S : Bs) (w : World) : Same S w w := fun _ _ => rfl
theorem Same.trans {S : Bs} {a b c : World} (h : Same S a b) (k : Same S b c) : Same S a c := fun x hx => (k x hx).trans (h x hx)
theorem Same.sub {S S' : Bs} {a b : World} (h : Same S' a b) (hs : ∀ x, S x → S' x) : Same S a b := fun x hx => h x (hs x hx)
theorem Same.cell {S : Bs} {w w' : World} (h : Same S w w') {b o : Nat} {v : Value} (hb : S b) (hc : w.cell? ⟨b, o, none⟩ = some v) : w'.cell? ⟨b, o, none⟩ = some v :=
  (World.cell?_of_block (a := ⟨b, o, none⟩) (h b hb)).trans hc
structure Rel.Ok {α : Type} (R : Rel α) : Prop where
  keep : ∀ {w w' : World} {S : Bs} {cs : List Value} {x : α}, R w S cs x → Same S w w' → R w' S cs x
  mono : ∀ {w : World} {S S' : Bs} {cs : List Value} {x : α}, R w S cs x → (∀ b, S b → S' b) → R w S' cs x
/-- cells that are elements, one behind the other -/
def Fl {α : Type} (R : Rel α) (size : Nat) (w : World) (S : Bs) (cells : List Value) (xs : List α) : Prop :=
  cells.length = xs.length * size ∧ ∀ k x, xs[k]? = some x → ∃ cs, R w S cs x ∧ cs.length = size ∧ ∀ j u, cs[j]? = some u → cells[k * size + j]? = some u
/-- a slice's elements -/
def Sl {α : Type} (R : Rel α) (size : Nat) (w : World) (S : Bs) (A : Option Addr) (xs : List α) : Prop :=
  ∃ cells, Fl R size w S cells xs ∧ (0 < xs.length → ∃ b o, A = some ⟨b, o, none⟩ ∧ S b ∧ ∀ j u, cells[j]? = some u → w.cell? ⟨b, o + j, none⟩ = some u)
/-- one cell that is a slice -/
def SlV {α : Type} (R : Rel α) (size : Nat) : Rel (List α) := fun w S cs xs => ∃ A c, cs = [.slice A xs.length c] ∧ Sl R size w S A xs
section
variable {α : Type} {R : Rel α} {size : Nat} {w w' : World} {S S' : Bs} {cells : List Value} {xs : List α} {A : Option Addr}
theorem Fl.keep (ok : R.Ok) (h : Fl R size w S cells xs) (hs : Same S w w') : Fl R size w' S cells xs :=
  ⟨h.1, fun k x hx => by obtain ⟨cs, h1, h2, h3⟩ := h.2 k x hx; exact ⟨cs, ok.keep h1 hs, h2, h3⟩⟩
theorem Fl.mono (ok : R.Ok) (h : Fl R size w S cells xs) (hs : ∀ b, S b → S' b) : Fl R size w S' cells xs :=
  ⟨h.1, fun k x hx => by obtain ⟨cs, h1, h2, h3⟩ := h.2 k x hx; exact ⟨cs, ok.mono h1 hs, h2, h3⟩⟩
theorem Sl.keep (ok : R.Ok) (h : Sl R size w S A xs) (hs : Same S w w') : Sl R size w' S A xs := by
  obtain ⟨cells, h1, h2⟩ := h
  refine ⟨cells, h1.keep ok hs, fun h0 => ?_⟩
  obtain ⟨b, o, e, hb, hc⟩ := h2 h0
  exact ⟨b, o, e, hb, fun j u hu => hs.cell hb (hc j u hu)⟩
theorem Sl.mono (ok : R.Ok) (h : Sl R size w S A xs) (hs : ∀ b, S b → S' b) : Sl R size w S' A xs := by
  obtain ⟨cells, h1, h2⟩ := h
  refine ⟨cells, h1.mono ok hs, fun h0 => ?_⟩
  obtain ⟨b, o, e, hb, hc⟩ := h2 h0
  exact ⟨b, o, e, hs b hb, hc⟩
theorem SlV.ok (ok : R.Ok) : (SlV R size).Ok :=
  ⟨fun ⟨A, c, e, h⟩ hs => ⟨A, c, e, h.keep ok hs⟩, fun ⟨A, c, e, h⟩ hs => ⟨A, c, e, h.mono ok hs⟩⟩
theorem Sl.get (h : Sl R size w S A xs) {k : Nat} (hk : k < xs.length) :
    ∃ b o x cs, A = some ⟨b, o, none⟩ ∧ S b ∧ Hid (xs[k]? = some x) ∧ R w S cs x ∧ cs.length = size ∧ ∀ j u, cs[j]? = some u → w.cell? ⟨b, o + k * size + j, none⟩ = some u := by
  obtain ⟨cells, h1, h2⟩ := h
  obtain ⟨b, o, e, hb, hc⟩ := h2 (by omega)
  have hx : xs[k]? = some xs[k] := List.getElem?_eq_getElem hk
  obtain ⟨cs, r1, r2, r3⟩ := h1.2 k _ hx
  exact ⟨b, o, _, cs, e, hb, hx, r1, r2, fun j u hu => by rw [Nat.add_assoc]; exact hc _ _ (r3 j u hu)⟩
theorem Fl.nil : Fl R size w S [] [] := ⟨by simp, fun k x h => by simp at h⟩
theorem Sl.nil : Sl R size w S A [] := ⟨[], Fl.nil, fun h => absurd h (by simp)⟩
theorem Fl.append {cells2 : List Value} {ys : List α} (h : Fl R size w S cells xs) (k : Fl R size w S cells2 ys) : Fl R size w S (cells ++ cells2) (xs ++ ys) := by
  refine ⟨by simp [h.1, k.1, Nat.add_mul], fun i x hx => ?_⟩
  by_cases hi : i < xs.length
  · rw [List.getElem?_append_left hi] at hx
    obtain ⟨cs, r1, r2, r3⟩ := h.2 i x hx
    refine ⟨cs, r1, r2, fun j u hu => ?_⟩
    have hj := r3 j u hu
    rw [List.getElem?_append_left (List.getElem?_eq_some_iff.1 hj).1]
    exact hj
  · rw [List.getElem?_append_right (by omega)] at hx
    obtain ⟨cs, r1, r2, r3⟩ := k.2 _ x hx
    refine ⟨cs, r1, r2, fun j u hu => ?_⟩
    have hj := r3 j u hu
    have he : xs.length * size + (i - xs.length) * size = i * size := by rw [← Nat.add_mul]; congr 1; omega
    rw [List.getElem?_append_right (by rw [h.1]; omega), h.1, show i * size + j - xs.length * size = (i - xs.length) * size + j by omega]
    exact hj
theorem Fl.one {cs : List Value} {x : α} (h : R w S cs x) (hl : cs.length = size) : Fl R size w S cs [x] := by
  refine ⟨by simp [hl], fun k y hy => ?_⟩
  cases k with
  | zero => simp at hy; subst hy; exact ⟨cs, h, hl, fun j u hu => by simpa using hu⟩
  | succ k => simp at hy
theorem Fl.snoc {cs : List Value} {x : α} (h : Fl R size w S cells xs) (k : R w S cs x) (hl : cs.length = size) : Fl R size w S (cells ++ cs) (xs ++ [x]) := h.append (Fl.one k hl)
/-- a row of the call's own, read -/
theorem Sl.of_own {base n c : Nat} {e : TypeId} (h : w.ownsRow base e size (.slice A n c) n cells) (hf : Fl R size w S cells xs) (hS : ∀ b cur, Bk w b e cur → S b) (hsz : 0 < size) : Sl R size w S A xs := by
  refine ⟨cells, hf, fun h0 => ?_⟩
  rcases h.2 with ⟨h1, h2⟩ | ⟨g, cap, cur, h1, hb, hh, hn, -⟩
  · have h3 := h.1
    have h4 := hf.1
    subst h2
    simp only [Nat.zero_mul, List.length_eq_zero_iff] at h3
    subst h3
    have := Nat.mul_pos h0 hsz
    rw [← h4] at this
    simp at this
  · simp only [Value.slice.injEq, true_and] at h1
    obtain ⟨rfl, rfl⟩ := h1
    refine ⟨g, 0, rfl, hS g cur hh, fun j u hu => ?_⟩
    have := h.cells (g := g) rfl j u hu
    rwa [addr_add] at this
end
end Go.Proofs.YtkijckccfookeaaDoor
