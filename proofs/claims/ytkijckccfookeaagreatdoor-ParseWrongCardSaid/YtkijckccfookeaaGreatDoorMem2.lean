/- Memory words, part two: a block known whole, slices with the type of their block, rows of rows. Plain facts, no program. -/
import Derived.Test.YtkijckccfookeaaGreatDoorMem
import Derived.RangeFuncBox
namespace Go.Proofs.YtkijckccfookeaaGreatDoor
open Go.RowKit

def Bk (w : World) (g : Nat) (t : TypeId) (cs : Array Value) : Prop := w.heap[g]? = some (.cells cs t (0, 0))
theorem Bk.cell {w : World} {g : Nat} {t : TypeId} {cs : Array Value} (h : Bk w g t cs) (i : Nat) : w.cell? ⟨g, i, none⟩ = cs[i]? := by
  unfold Bk at h
  simp [World.cell?, h]
theorem Bk.frozen {w : World} {g : Nat} {t : TypeId} {cs : Array Value} (h : Bk w g t cs) (i : Nat) : w.frozen? ⟨g, i, none⟩ = false := by
  unfold Bk at h
  simp [World.frozen?, h]
theorem Bk.lt {w : World} {g : Nat} {t : TypeId} {cs : Array Value} (h : Bk w g t cs) : g < w.heap.size := (Array.getElem?_eq_some_iff.1 h).1
theorem Bk.alloc {w : World} {g : Nat} {t : TypeId} {cs : Array Value} (h : Bk w g t cs) (o : Obj) : Bk (w.alloc o) g t cs := (Below.heap_alloc w o g h.lt).trans h
theorem Bk.set {w : World} {g : Nat} {t : TypeId} {cs : Array Value} (h : Bk w g t cs) (i : Nat) (u : Value) : Bk (w.setCell ⟨g, i, none⟩ u) g t (cs.setIfInBounds i u) := by
  unfold Bk at h ⊢
  simp [World.setCell, Array.getElem?_modify, h]
theorem Bk.far {w : World} {g : Nat} {t : TypeId} {cs : Array Value} (h : Bk w g t cs) {p : Addr} (hp : g ≠ p.block) (u : Value) : Bk (w.setCell p u) g t cs := (Below.heap_setCell w p u g hp).trans h
theorem Bk.drew {w : World} {g : Nat} {t : TypeId} {cs : Array Value} (h : Bk w g t cs) : Bk w.drew g t cs := h
theorem Rd.new (w : World) (cs : Array Value) (t : TypeId) (n size : Nat) (h : cs.size = n * size) : Rd (w.alloc (.cells cs t)) (w.heap.size + 1) (some ⟨w.heap.size, 0, none⟩) n size cs.toList :=
  ⟨by simpa using h, fun _ => ⟨_, _, rfl, by omega, fun j u hu => by
    have h1 : (w.alloc (.cells cs t)).heap[w.heap.size]? = some (.cells cs t) := heap_alloc_new w _
    have := World.news_of_block h1 j u hu
    rwa [addr_add] at this⟩⟩
theorem Rd.newAt (w : World) (h : Nat) (hh : w.heap.size = h) (cs : Array Value) (t : TypeId) (n size : Nat) (hs : cs.size = n * size) : Rd (w.alloc (.cells cs t)) (h + 1) (some ⟨h, 0, none⟩) n size cs.toList := by
  subst hh
  exact Rd.new w cs t n size hs
/-- a slice that reads as cs, in a block of elements of type t -/
def RdT (w : World) (t : TypeId) (A : Option Addr) (n size : Nat) (cs : List Value) : Prop :=
  cs.length = n * size ∧ (0 < n → ∃ b o cur, A = some ⟨b, o, none⟩ ∧ Bk w b t cur ∧ ∀ j u, cs[j]? = some u → cur[o + j]? = some u)
theorem RdT.rd {w : World} {t : TypeId} {A : Option Addr} {n size : Nat} {cs : List Value} (h : RdT w t A n size cs) : Rd w w.heap.size A n size cs :=
  ⟨h.1, fun hn => by
    obtain ⟨b, o, cur, e, hb, hc⟩ := h.2 hn
    exact ⟨b, o, e, hb.lt, fun j u hu => by rw [hb.cell]; exact hc j u hu⟩⟩
theorem RdT.below {w w' : World} {t : TypeId} {A : Option Addr} {n size : Nat} {cs : List Value} (h : RdT w t A n size cs) (hb : Below w.heap.size w w') : RdT w' t A n size cs :=
  ⟨h.1, fun hn => by
    obtain ⟨b, o, cur, e, hb', hc⟩ := h.2 hn
    exact ⟨b, o, cur, e, (hb.block b hb'.lt).trans hb', hc⟩⟩
theorem RdT.grown {w w' : World} {t : TypeId} {A : Option Addr} {n size : Nat} {cs : List Value} {row : Option Nat} (h : RdT w t A n size cs) (hg : w.grownBy w' row) (hr : ∀ g, row = some g → ∃ cur t', Bk w g t' cur ∧ t ≠ t') : RdT w' t A n size cs :=
  ⟨h.1, fun hn => by
    obtain ⟨b, o, cur, e, hb', hc⟩ := h.2 hn
    refine ⟨b, o, cur, e, (hg.block b hb'.lt (fun e => ?_)).trans hb', hc⟩
    obtain ⟨cur', t', hk, hne⟩ := hr b e.symm
    have hb2 : w.heap[b]? = _ := hb'
    have hk2 : w.heap[b]? = _ := hk
    rw [hb2] at hk2
    injection hk2 with h1
    injection h1 with _ h2
    exact hne h2⟩
theorem own_bk {w : World} {base : Nat} {e : TypeId} {size : Nat} {v : Value} {n : Nat} {xs : List Value} (h : w.ownsRow base e size v n xs) : ∀ g, v.ownBlock = some g → ∃ cur, Bk w g e cur := by
  intro g hg
  rcases h.2 with ⟨rfl, _⟩ | ⟨g', cap, cur, rfl, _, hh, _⟩
  · simp [Value.ownBlock] at hg
  · simp only [Value.ownBlock, Option.some.injEq] at hg
    subst hg
    exact ⟨cur, hh⟩
theorem Bk.grown {w w' : World} {g : Nat} {t e : TypeId} {cs : Array Value} (h : Bk w g t cs) {v : Value} {base size n : Nat} {xs : List Value} (hg : w.grownBy w' v.ownBlock) (ho : w.ownsRow base e size v n xs) (hne : t ≠ e) : Bk w' g t cs :=
  (hg.block g h.lt (fun e' => by
    obtain ⟨cur, hk⟩ := own_bk ho g e'.symm
    have hb2 : w.heap[g]? = _ := h
    have hk2 : w.heap[g]? = _ := hk
    rw [hb2] at hk2
    injection hk2 with h1
    injection h1 with _ h2
    exact hne h2)).trans h
theorem Bk.new (w : World) (t : TypeId) (cs : Array Value) : Bk (w.alloc (.cells cs t)) w.heap.size t cs := heap_alloc_new w _

theorem RdT.other {w w' : World} {t : TypeId} {A : Option Addr} {n size : Nat} {cs : List Value} {row : Option Nat} (h : RdT w t A n size cs) (hg : w.grownBy w' row) (hr : ∀ r, row = some r → ∃ o : Obj, w.heap[r]? = some o ∧ o.isCells = false) : RdT w' t A n size cs :=
  ⟨h.1, fun hn => by
    obtain ⟨b, o, cur, e, hb', hc⟩ := h.2 hn
    refine ⟨b, o, cur, e, (hg.block b hb'.lt (fun e => ?_)).trans hb', hc⟩
    obtain ⟨o', ho, hc⟩ := hr b e.symm
    have hb2 : w.heap[b]? = _ := hb'
    rw [hb2] at ho
    cases ho
    cases hc⟩
theorem ownsRow_base {w : World} {b b' : Nat} {e : TypeId} {size : Nat} {v : Value} {n : Nat} {xs : List Value} (h : w.ownsRow b e size v n xs) (hb : b' ≤ b) : w.ownsRow b' e size v n xs :=
  ⟨h.1, h.2.imp id (fun ⟨g, cap, cur, h1, h2, h3⟩ => ⟨g, cap, cur, h1, by omega, h3⟩)⟩
theorem own_rdT {w : World} {base n size c : Nat} {e : TypeId} {A : Option Addr} {xs : List Value} (h : w.ownsRow base e size (.slice A n c) n xs) : RdT w e A n size xs := by
  refine ⟨h.1, fun hn => ?_⟩
  rcases h.2 with ⟨h1, _⟩ | ⟨g, cap, cur, h1, _, hh, _, _, _, htk⟩
  · simp only [Value.slice.injEq] at h1
    omega
  · simp only [Value.slice.injEq, true_and] at h1
    obtain ⟨rfl, rfl⟩ := h1
    refine ⟨g, 0, cur, rfl, hh, fun j u hu => ?_⟩
    rw [← htk, List.getElem?_take] at hu
    split at hu
    · rw [Nat.zero_add, ← Array.getElem?_toList]
      exact hu
    · cases hu
theorem own_cap {w : World} {base n size c : Nat} {e : TypeId} {A : Option Addr} {xs : List Value} (h : w.ownsRow base e size (.slice A n c) n xs) : n ≤ c := by
  rcases h.2 with ⟨h1, h2⟩ | ⟨g, cap, cur, h1, _, _, h3, _⟩
  · omega
  · simp only [Value.slice.injEq] at h1
    omega
def KeepT (T : Nat → Prop) (W W' : World) : Prop := ∀ b, T b → ∀ o, W.heap[b]? = some o → o.isCells = true → W'.heap[b]? = some o
theorem KeepT.refl (T : Nat → Prop) (W : World) : KeepT T W W := fun _ _ _ h _ => h
theorem KeepT.trans {T : Nat → Prop} {A B C : World} (h : KeepT T A B) (k : KeepT T B C) : KeepT T A C := fun b hb o ho hc => k b hb o (h b hb o ho hc) hc
theorem KeepT.put {T : Nat → Prop} (W : World) (l : Nat) (o o' : Obj) (h : W.heap[l]? = some o) (hc : o.isCells = false) : KeepT T W (W.putObj l o') := fun b _ q hq hqc => by
  have hne : l ≠ b := by
    rintro rfl
    rw [h] at hq
    injection hq with hq
    subst hq
    simp [hc] at hqc
  exact (World.putObj_heap_other (Ne.symm hne)).trans hq
theorem KeepT.below {T : Nat → Prop} {W W' : World} (h : Below W.heap.size W W') : KeepT T W W' := fun b _ o ho _ => (h.block b (Array.getElem?_eq_some_iff.1 ho).1).trans ho
theorem KeepT.cell {T : Nat → Prop} {W W' : World} (h : KeepT T W W') {p : Addr} (hp : T p.block) {v : Value} (hc : W.cell? p = some v) : W'.cell? p = some v := by
  unfold World.cell? at hc ⊢
  split at hc
  · rename_i c e f heq
    rw [h _ hp _ heq rfl]
    exact hc
  · cases hc
theorem KeepT.rd {T : Nat → Prop} {W W' : World} (h : KeepT T W W') {B : Nat} (hT : ∀ b, b < B → T b) {A : Option Addr} {n size : Nat} {cs : List Value} (hr : Rd W B A n size cs) : Rd W' B A n size cs :=
  ⟨hr.1, fun hn => by
    obtain ⟨b, o, e, hb, hc⟩ := hr.2 hn
    exact ⟨b, o, e, hb, fun j u hu => h.cell (p := ⟨b, o + j, none⟩) (hT b hb) (hc j u hu)⟩⟩

/-- rows of words: a slice of slices; t is the word's type -/
def RowsIn (t : TypeId) (w : World) (hs : List Value) (rows : List (List P3)) : Prop :=
  hs.length = rows.length ∧ ∀ (i : Nat) (r : List P3), rows[i]? = some r → ∃ A k c, hs[i]? = some (Value.slice A k c) ∧ RdT w t A k 3 (c3s r) ∧ k ≤ c
theorem RowsIn.nil (t : TypeId) (w : World) : RowsIn t w [] [] := ⟨rfl, fun i r h => by simp at h⟩
theorem RowsIn.kept {t : TypeId} {w w' : World} {hs : List Value} {rows : List (List P3)} (h : RowsIn t w hs rows) (hk : ∀ A k r, RdT w t A k 3 (c3s r) → RdT w' t A k 3 (c3s r)) : RowsIn t w' hs rows :=
  ⟨h.1, fun i r hi => by obtain ⟨A, k, c, h1, h2, h3⟩ := h.2 i r hi; exact ⟨A, k, c, h1, hk _ _ _ h2, h3⟩⟩
theorem RowsIn.snoc {t : TypeId} {w : World} {hs : List Value} {rows : List (List P3)} (h : RowsIn t w hs rows) {A : Option Addr} {k c : Nat} {r : List P3} (hr : RdT w t A k 3 (c3s r)) (hkc : k ≤ c) : RowsIn t w (hs ++ [.slice A k c]) (rows ++ [r]) := by
  refine ⟨by simp [h.1], fun i r' hi => ?_⟩
  by_cases hlt : i < rows.length
  · rw [List.getElem?_append_left hlt] at hi
    obtain ⟨A', k', c', h1, h2⟩ := h.2 i r' hi
    exact ⟨A', k', c', by rw [List.getElem?_append_left (by rw [h.1]; exact hlt)]; exact h1, h2⟩
  · have hi2 : i = rows.length := by
      have := (List.getElem?_eq_some_iff.1 hi).1
      simp at this
      omega
    subst hi2
    simp at hi
    subst hi
    exact ⟨A, k, c, by rw [← h.1]; simp, hr, hkc⟩
theorem RowsIn.below {t : TypeId} {w w' : World} {hs : List Value} {rows : List (List P3)} (h : RowsIn t w hs rows) (hb : Below w.heap.size w w') : RowsIn t w' hs rows := h.kept fun _ _ _ hr => hr.below hb
end Go.Proofs.YtkijckccfookeaaGreatDoor
