/- A slice of slices of strings that came in as an argument. -/
import Derived.Test.YtccnogdfnikioaaDoorOpen
namespace Go.Proofs.YtccnogdfnikioaaDoor
open Go.ChangeShapes Go.WideShapes Go.Deep Go.Joins Go.RowKit

def StrsAt (w : World) (A : Option Addr) (n : Nat) (rs : List (List (List UInt8))) : Prop :=
  rs.length = n ∧ (0 < n → ∃ b o, A = some ⟨b, o, none⟩ ∧ b < w.heap.size ∧ ∀ (i : Nat) (ss : List (List UInt8)), rs[i]? = some ss → ∃ A2 c2, w.cell? ⟨b, o + i, none⟩ = some (.slice A2 ss.length c2) ∧ ss.length ≤ c2 ∧ c2 ≤ maxLen ∧ Rd w w.heap.size A2 ss.length 1 (cSs ss) ∧ ∀ s ∈ ss, s.length ≤ maxLen)
theorem cells30 : Tryd.prog.cellsOf 30 = 1 := by kernel_rfl
section
variable {H : Type} {enc : TypeId × Value → H} {base : Nat}
theorem open_strss {W : World} {r : Reach} {v : Value} {d : DataW H} {p : List MemPlace} (hok : Value.okWide Tryd.prog W r base 48 v) (h : DataW.Trod enc Tryd.prog W 0 (fun _ => true) true 48 v d p) :
    ∃ (A : Option Addr) (n c : Nat) (rs : List (List (List UInt8))), v = .slice A n c ∧ n ≤ c ∧ c ≤ maxLen ∧ StrsAt W A n rs := by
  obtain ⟨a, len, cap, rfl⟩ := okWide_slice Tryd.underlying48 hok
  obtain ⟨fuel, hf⟩ := h
  rcases open_slice Tryd.underlying48 hf with h0 | ⟨a, len', cap', m, n, D, Pl, hcs, hb, hl, hm, hmm, hx, hi⟩
  · have h1 := h0.1
    simp [Value.cells] at h1
    obtain ⟨rfl, rfl, rfl⟩ := h1
    exact ⟨none, 0, 0, [], rfl, by omega, by simp, rfl, fun h => absurd h (by omega)⟩
  · simp [Value.cells] at hcs
    obtain ⟨rfl, rfl, rfl⟩ := hcs
    have hex : ∀ i : Nat, ∃ ss : List (List UInt8), i < len → ∃ A2 c2, W.cell? (a.add i) = some (.slice A2 ss.length c2) ∧ ss.length ≤ c2 ∧ c2 ≤ maxLen ∧ Rd W W.heap.size A2 ss.length 1 (cSs ss) ∧ ∀ s ∈ ss, s.length ≤ maxLen := by
      intro i
      by_cases hil : i < len
      · have him : i < m := by rw [hmm]; split <;> omega
        obtain ⟨cs', hc, ht'⟩ := hi i him
        rw [cells30] at hc
        obtain ⟨_, hcl, hat⟩ := World.cells?_some hc
        obtain ⟨c0, rfl⟩ : ∃ c0, cs' = [c0] := List.length_eq_one_iff.1 hcl
        have hcell := hat 0 (by omega)
        obtain ⟨A2, n2, c2, ss, rfl, e1, e2, e3, e4⟩ := open_strs0 ht'
        have hl2 := Rd.lenS e3
        subst hl2
        refine ⟨ss, fun _ => ⟨A2, c2, ?_, e1, e2, e3, e4⟩⟩
        rw [Go.Deep.add_add, Nat.mul_one, Nat.add_zero] at hcell
        simpa using hcell
      · exact ⟨[], fun h => absurd h hil⟩
    obtain ⟨f, hf'⟩ := Classical.axiomOfChoice hex
    refine ⟨some a, len, cap, (List.range len).map f, rfl, hl, hm, by simp, fun hn => ?_⟩
    obtain ⟨b, o, s⟩ := a
    obtain ⟨A0, c0, h0, -⟩ := hf' 0 hn
    have hs : s = none := by simpa [Addr.add] using World.cell?_spot h0
    subst hs
    rw [addr_add] at h0
    refine ⟨b, o, rfl, World.block_lt_of_cell? W _ h0, fun i ss hi' => ?_⟩
    simp only [List.getElem?_map, Option.map_eq_some_iff] at hi'
    obtain ⟨j, hj, rfl⟩ := hi'
    have hjl := (List.getElem?_eq_some_iff.1 hj)
    have hij : j = i := by
      obtain ⟨h1, h2⟩ := hjl
      simpa using h2.symm
    subst hij
    have hil : j < len := by simpa using hjl.1
    obtain ⟨A2, c2, e0, e1, e2, e3, e4⟩ := hf' j hil
    rw [addr_add] at e0
    exact ⟨A2, c2, e0, e1, e2, e3, e4⟩
end
end Go.Proofs.YtccnogdfnikioaaDoor
