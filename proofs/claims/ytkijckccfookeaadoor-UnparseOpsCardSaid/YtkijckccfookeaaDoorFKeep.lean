/- What printing leaves alone: every object but rows of bytes and printers. -/
import Derived.Test.YtkijckccfookeaaDoorFRead
namespace Go.Proofs.YtkijckccfookeaaDoor
open Go.RowKit

/-- the object is no row of bytes, and no printer -/
def notP : Obj → Prop
  | .cells _ t _ => t ≠ 5 ∧ t ≠ 96
  | _ => True
/-- all that is no row of bytes, and no printer, is as it was -/
structure KP (w w' : World) : Prop where
  same : ∀ (b : Nat) (o : Obj), w.heap[b]? = some o → notP o → w'.heap[b]? = some o
  size : w.heap.size ≤ w'.heap.size
theorem KP.refl (w : World) : KP w w := ⟨fun _ _ h _ => h, Nat.le_refl _⟩
theorem KP.trans {a b c : World} (h : KP a b) (k : KP b c) : KP a c := ⟨fun x o hx ho => k.same x o (h.same x o hx ho) ho, Nat.le_trans h.size k.size⟩
theorem KP.below {w w' : World} (h : Below w.heap.size w w') : KP w w' := ⟨fun b o hb _ => (h.block b (Array.getElem?_eq_some_iff.1 hb).1).trans hb, h.size⟩
theorem KP.alloc (w : World) (o : Obj) : KP w (w.alloc o) := KP.below ((Below.refl _ _).alloc (Nat.le_refl _) _)
theorem KP.drewN (w : World) (n : Nat) : KP w (w.drewN n) := ⟨fun _ _ h _ => h, Nat.le_refl _⟩
theorem KP.bk {w w' : World} (h : KP w w') {g : Nat} {t : TypeId} {cs : Array Value} (hb : Bk w g t cs) (h1 : t ≠ 5) (h2 : t ≠ 96) : Bk w' g t cs := h.same g _ hb ⟨h1, h2⟩
/-- the blocks of the types that fonts are made of -/
def FT (w : World) : Bs := fun b => ∃ o, w.heap[b]? = some o ∧ notP o
theorem KP.ft {w w' : World} (h : KP w w') : Same (FT w) w w' := fun b ⟨o, h1, h2⟩ => (h.same b o h1 h2).trans h1.symm
theorem KP.sub {w w' : World} (h : KP w w') : ∀ b, FT w b → FT w' b := fun b ⟨o, h1, h2⟩ => ⟨o, h.same b o h1 h2, h2⟩
theorem KP.sl {α : Type} {R : Rel α} (ok : R.Ok) {size : Nat} {w w' : World} {A : Option Addr} {xs : List α} (h : KP w w') (k : Sl R size w (FT w) A xs) : Sl R size w' (FT w') A xs := (k.keep ok h.ft).mono ok h.sub
theorem KP.rel {α : Type} {R : Rel α} (ok : R.Ok) {w w' : World} {cs : List Value} {x : α} (h : KP w w') (k : R w (FT w) cs x) : R w' (FT w') cs x := ok.mono (ok.keep k h.ft) h.sub
theorem ft_bk {w : World} {b : Nat} {t : TypeId} {cs : Array Value} (h : Bk w b t cs) (h1 : t ≠ 5) (h2 : t ≠ 96) : FT w b := ⟨_, h, h1, h2⟩
end Go.Proofs.YtkijckccfookeaaDoor
