/- An outline that came in as an argument: where it lies, and what it holds. -/
import Derived.Deep.Slices
import Derived.Deep.Fields
import Derived.ChangeSame
import Derived.ProofKit
import Derived.Lib.SmallJoins
import Derived.Test.YtfpdbdbgemolgaaMem
import Derived.Test.YtfpdbdbgemolgaaProg
import Derived.KernelRfl
namespace Go.Proofs.Ytfpdbdbgemolgaa
open Go.ChangeShapes Go.WideShapes Go.Deep Go.Joins Go.RowKit

section
variable {H : Type} {enc : TypeId × Value → H} {P : Program} {w : World} {base : Nat} {spare : Nat → Bool} {held : Bool}
theorem open_slice_fields {t e : TypeId} {fs : Array Field} {fuel : Nat} {cs : List Value} {x : DataW H × List MemPlace} (ht : P.underlying t = some (.slice e)) (he : P.underlying e = some (.struct fs))
    (hone : oneCellFields P fs = true) (hC : P.cellsOf e = fs.size) (h : DataW.trod enc P w base spare held fuel t cs = some x) :
    cs = [.slice none 0 0] ∨
    ∃ (a : Addr) (len cap : Nat), cs = [.slice (some a) len cap] ∧ len ≤ cap ∧ cap ≤ maxLen ∧
      ∀ i, i < len → ∃ n : Nat, ∀ (j : Nat) (f : Field), fs[j]? = some f → ∃ (v : Value) (y : DataW H × List MemPlace), w.cell? (a.add (i * fs.size + j)) = some v ∧ DataW.trod enc P w base spare held n f.type [v] = some y := by
  rcases open_slice ht h with h0 | ⟨a, len, cap, m, n, D, Pl, hcs, hb, hl, hm, hmm, hx, hi⟩
  · exact .inl h0.1
  · refine .inr ⟨a, len, cap, hcs, hl, hm, fun i hil => ?_⟩
    have him : i < m := by rw [hmm]; split <;> omega
    obtain ⟨cs', hc, ht'⟩ := hi i him
    rw [hC] at hc
    obtain ⟨ys, n', hn', hy, hlen, hyl, hf⟩ := DataW.trod_struct he ht'
    obtain ⟨_, hcl, hat⟩ := World.cells?_some hc
    refine ⟨n', fun j f hj => ?_⟩
    obtain ⟨ho, hk⟩ := hone_of hone j f hj
    have hjl : j < fs.size := (Array.getElem?_eq_some_iff.1 hj).1
    have hcell := hat j hjl
    have hv : cs'[j]? = some (cs'[j]'(by omega)) := List.getElem?_eq_getElem (by omega)
    have h1 := hf j f hj
    rw [ho, hk] at h1
    have hone' : (cs'.drop j).take 1 = [cs'[j]'(by omega)] := by
      rw [List.drop_eq_getElem_cons (by omega)]
      rfl
    rw [hone'] at h1
    have hys : ys[j]? = some (ys[j]'(by omega)) := List.getElem?_eq_getElem (by omega)
    refine ⟨_, _, ?_, h1.trans hys⟩
    rw [← Go.Deep.add_add, hcell, hv]
end

theorem cells25 : Try.prog.cellsOf 25 = 2 := by kernel_rfl
theorem cells40 : Try.prog.cellsOf 40 = 3 := by kernel_rfl
theorem cells3 : Try.prog.cellsOf 3 = 1 := by kernel_rfl

def wfP (p : P3) : Prop := (Lit.int .i64 p.1).wf = true ∧ (Lit.int .i64 p.2.1).wf = true
def wfI (z : Int) : Prop := (Lit.int .i64 z).wf = true

section
variable {H : Type} {enc : TypeId × Value → H} {w : World} {base : Nat} {spare : Nat → Bool} {held : Bool}
theorem open_points {fuel : Nat} {c0 : Value} {x : DataW H × List MemPlace} (h : DataW.trod enc Try.prog w base spare held fuel 22 [c0] = some x) :
    ∃ (A : Option Addr) (n c : Nat) (ps : List P3), c0 = .slice A n c ∧ n ≤ c ∧ c ≤ maxLen ∧ Rd w w.heap.size A n 3 (c3s ps) ∧ ∀ p ∈ ps, wfP p := by
  rcases open_slice_fields Try.underlying22 Try.underlying40 (by kernel_rfl) cells40 h with h0 | ⟨a, len, cap, hcs, hl, hm, hi⟩
  · simp only [List.cons.injEq, and_true] at h0
    exact ⟨none, 0, 0, [], h0, by omega, by simp, Rd.nil _ _ _ _, by simp⟩
  · simp only [List.cons.injEq, and_true] at hcs
    have hex : ∀ i : Nat, ∃ p : P3, i < len → (w.cell? (a.add (i * 3)) = some (.int .i64 p.1) ∧ w.cell? (a.add (i * 3 + 1)) = some (.int .i64 p.2.1) ∧ w.cell? (a.add (i * 3 + 2)) = some (.bool p.2.2) ∧ wfP p) := by
      intro i
      by_cases hil : i < len
      · obtain ⟨n', hf⟩ := hi i hil
        obtain ⟨v0, y0, hc0, ht0⟩ := hf 0 _ rfl
        obtain ⟨v1, y1, hc1, ht1⟩ := hf 1 _ rfl
        obtain ⟨v2, y2, hc2, ht2⟩ := hf 2 _ rfl
        obtain ⟨x0, e0, _, wx⟩ := DataW.trod_int Try.underlying3 ht0
        obtain ⟨x1, e1, _, wy⟩ := DataW.trod_int Try.underlying3 ht1
        have hbool := DataW.trod_bool Try.underlying4 ht2
        obtain ⟨x2, e2, _⟩ := hbool
        simp at e0 e1 e2
        subst e0 e1 e2
        exact ⟨(x0, x1, x2), fun _ => ⟨hc0, hc1, hc2, wx, wy⟩⟩
      · exact ⟨(0, 0, false), fun h => absurd h hil⟩
    obtain ⟨f, hf⟩ := Classical.axiomOfChoice hex
    refine ⟨some a, len, cap, (List.range len).map f, hcs, hl, hm, ⟨by rw [c3s_length]; simp, fun hn => ?_⟩, ?_⟩
    · obtain ⟨b, o, s⟩ := a
      have hs : s = none := by
        have := (hf 0 hn).1
        simpa [Addr.add] using World.cell?_spot this
      subst hs
      have hlt : b < w.heap.size := by
        have := (hf 0 hn).1
        rw [addr_add] at this
        exact World.block_lt_of_cell? w _ this
      refine ⟨b, o, rfl, hlt, fun j u hu => ?_⟩
      have hjl : j < len * 3 := by have := (List.getElem?_eq_some_iff.1 hu).1; rw [c3s_length] at this; simpa using this
      have hq : ((List.range len).map f)[j / 3]? = some (f (j / 3)) := by simp [show j / 3 < len by omega]
      obtain ⟨a1, a2, a3⟩ := c3s_get _ _ _ hq
      obtain ⟨g1, g2, g3, _⟩ := hf (j / 3) (by omega)
      rw [addr_add] at g1 g2 g3
      rcases (by omega : j = j / 3 * 3 ∨ j = j / 3 * 3 + 1 ∨ j = j / 3 * 3 + 2) with h | h | h
      · rw [h] at hu ⊢
        rw [a1] at hu
        cases hu
        exact g1
      · rw [h] at hu ⊢
        rw [a2] at hu
        cases hu
        exact g2
      · rw [h] at hu ⊢
        rw [a3] at hu
        cases hu
        exact g3
    · intro p hp
      simp only [List.mem_map, List.mem_range] at hp
      obtain ⟨i, hi', rfl⟩ := hp
      exact (hf i hi').2.2.2
theorem open_nums {fuel : Nat} {c0 : Value} {x : DataW H × List MemPlace} (h : DataW.trod enc Try.prog w base (fun _ => true) held fuel 23 [c0] = some x) :
    ∃ (A : Option Addr) (n c : Nat) (zs : List Int), c0 = .slice A n c ∧ n ≤ c ∧ c ≤ maxLen ∧ Rd w w.heap.size A n 1 (cIs zs) ∧ ∀ z ∈ zs, wfI z := by
  rcases open_ints Try.underlying23 Try.underlying3 cells3 h with ⟨hcs, _⟩ | ⟨a, len, cap, zs, hcs, _, hl, hm, hz, _, hcell, hwz⟩
  · simp only [List.cons.injEq, and_true] at hcs
    exact ⟨none, 0, 0, [], hcs, by omega, by simp, Rd.nil _ _ _ _, by simp⟩
  · simp only [List.cons.injEq, and_true] at hcs
    have hz' : zs.length = cap := by simpa using hz
    refine ⟨some a, len, cap, zs.take len, hcs, hl, hm, ⟨by simp [cIs]; omega, fun hn => ?_⟩, fun z hz' => hwz z (List.mem_of_mem_take hz')⟩
    obtain ⟨b, o, s⟩ := a
    have h0 := hcell 0 (by omega)
    have hs : s = none := by simpa [Addr.add] using World.cell?_spot h0
    subst hs
    have hlt : b < w.heap.size := by
      rw [addr_add] at h0
      exact World.block_lt_of_cell? w _ h0
    refine ⟨b, o, rfl, hlt, fun j u hu => ?_⟩
    simp only [cIs, List.getElem?_map, Option.map_eq_some_iff] at hu
    obtain ⟨q, hq, rfl⟩ := hu
    rw [List.getElem?_take] at hq
    split at hq
    · have h1 := hcell j (List.getElem?_eq_some_iff.1 hq).1
      rw [addr_add, List.getD_eq_getElem?_getD, hq] at h1
      exact h1
    · cases hq
end
end Go.Proofs.Ytfpdbdbgemolgaa
