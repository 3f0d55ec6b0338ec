/- Slices of strings and of bytes that came in as arguments: where they lie, and what they hold. -/
import Derived.Deep.Slices
import Derived.Deep.Fields
import Derived.ChangeSame
import Derived.ProofKit
import Derived.Lib.SmallJoins
import Derived.SliceStrings
import Derived.OpenShut
import Derived.Test.YtccnogdfnikioaaDoorMem
import Derived.Test.YtccnogdfnikioaaDoorProg
import Derived.KernelRfl
namespace Go.Proofs.YtccnogdfnikioaaDoor
open Go.ChangeShapes Go.WideShapes Go.Deep Go.Joins Go.RowKit

def cSs (ss : List (List UInt8)) : List Value := ss.map fun s => .string ⟨s.toArray⟩
def cYs (zs : List UInt8) : List Value := zs.map fun c => .int .u8 c.toNat
theorem cSs_get (ss : List (List UInt8)) (k : Nat) (s : List UInt8) (h : ss[k]? = some s) : (cSs ss)[k]? = some (.string ⟨s.toArray⟩) := by simp [cSs, h]
theorem cYs_get (zs : List UInt8) (k : Nat) (c : UInt8) (h : zs[k]? = some c) : (cYs zs)[k]? = some (.int .u8 c.toNat) := by simp [cYs, h]
theorem cells9 : Tryd.prog.cellsOf 9 = 1 := by kernel_rfl
theorem cells5 : Tryd.prog.cellsOf 5 = 1 := by kernel_rfl

section
variable {H : Type} {enc : TypeId × Value → H} {w : World} {base : Nat} {held : Bool}
theorem open_strs0 {fuel : Nat} {c0 : Value} {x : DataW H × List MemPlace} (h : DataW.trod enc Tryd.prog w base (fun _ => true) held fuel 30 [c0] = some x) :
    ∃ (A : Option Addr) (n c : Nat) (ss : List (List UInt8)), c0 = .slice A n c ∧ n ≤ c ∧ c ≤ maxLen ∧ Rd w w.heap.size A n 1 (cSs ss) ∧ ∀ s ∈ ss, s.length ≤ maxLen := by
  rcases open_strings Tryd.underlying30 Tryd.underlying9 cells9 h with ⟨hcs, _⟩ | ⟨a, len, cap, zs, hcs, _, hl, hm, hz, _, hcell, hwz⟩
  · simp only [List.cons.injEq, and_true] at hcs
    exact ⟨none, 0, 0, [], hcs, by omega, by simp, Rd.nil _ _ _ _, by simp⟩
  · simp only [List.cons.injEq, and_true] at hcs
    have hz' : zs.length = cap := by simpa using hz
    refine ⟨some a, len, cap, (zs.take len).map (fun s => s.data.toList), hcs, hl, hm, ⟨by simp [cSs]; omega, fun hn => ?_⟩, fun s hs => ?_⟩
    · obtain ⟨b, o, s⟩ := a
      have h0 := hcell 0 (by omega)
      have hs : s = none := by simpa [Addr.add] using World.cell?_spot h0
      subst hs
      have hlt : b < w.heap.size := by
        rw [addr_add] at h0
        exact World.block_lt_of_cell? w _ h0
      refine ⟨b, o, rfl, hlt, fun j u hu => ?_⟩
      simp only [cSs, List.map_map, List.getElem?_map, Option.map_eq_some_iff] at hu
      obtain ⟨q, hq, rfl⟩ := hu
      rw [List.getElem?_take] at hq
      split at hq
      · have h1 := hcell j (List.getElem?_eq_some_iff.1 hq).1
        rw [addr_add, List.getD_eq_getElem?_getD, hq] at h1
        exact h1
      · cases hq
    · simp only [List.mem_map] at hs
      obtain ⟨q, hq, rfl⟩ := hs
      exact hwz q (List.mem_of_mem_take hq)
theorem open_bts0 {fuel : Nat} {c0 : Value} {x : DataW H × List MemPlace} (h : DataW.trod enc Tryd.prog w base (fun _ => true) held fuel 31 [c0] = some x) :
    ∃ (A : Option Addr) (n c : Nat) (zs : List UInt8), c0 = .slice A n c ∧ n ≤ c ∧ c ≤ maxLen ∧ Rd w w.heap.size A n 1 (cYs zs) := by
  rcases open_ints Tryd.underlying31 Tryd.underlying5 cells5 h with ⟨hcs, _⟩ | ⟨a, len, cap, zs, hcs, _, hl, hm, hz, _, hcell, hwz⟩
  · simp only [List.cons.injEq, and_true] at hcs
    exact ⟨none, 0, 0, [], hcs, by omega, by simp, Rd.nil _ _ _ _⟩
  · simp only [List.cons.injEq, and_true] at hcs
    have hz' : zs.length = cap := by simpa using hz
    refine ⟨some a, len, cap, (zs.take len).map (fun z => UInt8.ofNat z.toNat), hcs, hl, hm, ⟨by simp [cYs]; omega, fun hn => ?_⟩⟩
    obtain ⟨b, o, s⟩ := a
    have h0 := hcell 0 (by omega)
    have hs : s = none := by simpa [Addr.add] using World.cell?_spot h0
    subst hs
    have hlt : b < w.heap.size := by
      rw [addr_add] at h0
      exact World.block_lt_of_cell? w _ h0
    refine ⟨b, o, rfl, hlt, fun j u hu => ?_⟩
    simp only [cYs, List.map_map, List.getElem?_map, Option.map_eq_some_iff] at hu
    obtain ⟨q, hq, rfl⟩ := hu
    rw [List.getElem?_take] at hq
    split at hq
    · have h1 := hcell j (List.getElem?_eq_some_iff.1 hq).1
      rw [addr_add, List.getD_eq_getElem?_getD, hq] at h1
      obtain ⟨b1, b2⟩ := bounds_u8 (hwz q (List.mem_of_getElem? hq))
      have e : (((UInt8.ofNat q.toNat).toNat : Nat) : Int) = q := by
        rw [UInt8.toNat_ofNat']
        omega
      simp only [Function.comp, e]
      exact h1
    · cases hq
theorem open_strs {W : World} {r : Reach} {v : Value} {d : DataW H} {p : List MemPlace} (hok : Value.okWide Tryd.prog W r base 30 v) (h : DataW.Trod enc Tryd.prog W 0 (fun _ => true) true 30 v d p) :
    ∃ (A : Option Addr) (n c : Nat) (ss : List (List UInt8)), v = .slice A n c ∧ n ≤ c ∧ c ≤ maxLen ∧ (Rd W W.heap.size A n 1 (cSs ss) ∧ ∀ s ∈ ss, s.length ≤ maxLen) := by
  obtain ⟨a, len, cap, rfl⟩ := okWide_slice Tryd.underlying30 hok
  obtain ⟨fuel, hf⟩ := h
  exact open_strs0 hf
theorem open_bts {W : World} {r : Reach} {v : Value} {d : DataW H} {p : List MemPlace} (hok : Value.okWide Tryd.prog W r base 31 v) (h : DataW.Trod enc Tryd.prog W 0 (fun _ => true) true 31 v d p) :
    ∃ (A : Option Addr) (n c : Nat) (zs : List UInt8), v = .slice A n c ∧ n ≤ c ∧ c ≤ maxLen ∧ Rd W W.heap.size A n 1 (cYs zs) := by
  obtain ⟨a, len, cap, rfl⟩ := okWide_slice Tryd.underlying31 hok
  obtain ⟨fuel, hf⟩ := h
  exact open_bts0 hf
end
section
variable {H : Type} {enc : TypeId × Value → H} {base : Nat}
theorem cells46 : Tryd.prog.cellsOf 46 = 2 := by kernel_rfl
theorem cells45 : Tryd.prog.cellsOf 45 = 1 := by kernel_rfl
theorem open_two {W : World} {r : Reach} {v : Value} {d : DataW H} {p : List MemPlace} (hok : Value.okWide Tryd.prog W r base 46 v) (h : DataW.Trod enc Tryd.prog W 0 (fun _ => true) true 46 v d p) :
    ∃ (x y : Int), v = .agg #[.int .u16 x, .int .u16 y] ∧ ((0 ≤ x ∧ x ≤ 65535) ∧ 0 ≤ y ∧ y ≤ 65535) := by
  unfold Value.okWide at hok
  rw [Tryd.underlying46] at hok
  obtain ⟨cs, rfl, hsz, -⟩ := hok
  rw [cells46] at hsz
  obtain ⟨c0, c1, rfl⟩ := array2 hsz
  obtain ⟨fuel, hf⟩ := h
  obtain ⟨xs, m, -, -, -, hl, hel⟩ := DataW.trod_array Tryd.underlying46 hf
  rw [cells45] at hel
  have h0 := hel 0 (by omega)
  have h1 := hel 1 (by omega)
  rw [List.getElem?_eq_getElem (by omega)] at h0 h1
  obtain ⟨x, e0, -, wx⟩ := DataW.trod_int Tryd.underlying45 h0
  obtain ⟨y, e1, -, wy⟩ := DataW.trod_int Tryd.underlying45 h1
  simp [Value.cells] at e0 e1
  subst e0 e1
  exact ⟨x, y, rfl, bounds_u16 wx, bounds_u16 wy⟩
end
theorem Rd.atS {w : World} {B n : Nat} {A : Option Addr} {ss : List (List UInt8)} (h : Rd w B A n 1 (cSs ss)) {k : Nat} (hk : k < n) :
    ∃ b o s, A = some ⟨b, o, none⟩ ∧ b < B ∧ Hid (ss[k]? = some s) ∧ w.cell? ⟨b, o + k, none⟩ = some (.string ⟨s.toArray⟩) := by
  obtain ⟨b, o, e, hb, hc⟩ := h.2 (by omega)
  have hl := h.1
  simp [cSs] at hl
  have hp : ss[k]? = some (ss[k]'(by omega)) := List.getElem?_eq_getElem (by omega)
  exact ⟨b, o, _, e, hb, hp, hc _ _ (cSs_get ss k _ hp)⟩
theorem Rd.atY {w : World} {B n : Nat} {A : Option Addr} {zs : List UInt8} (h : Rd w B A n 1 (cYs zs)) {k : Nat} (hk : k < n) :
    ∃ b o c, A = some ⟨b, o, none⟩ ∧ b < B ∧ Hid (zs[k]? = some c) ∧ w.cell? ⟨b, o + k, none⟩ = some (.int .u8 c.toNat) := by
  obtain ⟨b, o, e, hb, hc⟩ := h.2 (by omega)
  have hl := h.1
  simp [cYs] at hl
  have hp : zs[k]? = some (zs[k]'(by omega)) := List.getElem?_eq_getElem (by omega)
  exact ⟨b, o, _, e, hb, hp, hc _ _ (cYs_get zs k _ hp)⟩
theorem Rd.lenS {w : World} {B n : Nat} {A : Option Addr} {ss : List (List UInt8)} (h : Rd w B A n 1 (cSs ss)) : ss.length = n := by have := h.1; simp [cSs] at this; omega
theorem Rd.lenY {w : World} {B n : Nat} {A : Option Addr} {zs : List UInt8} (h : Rd w B A n 1 (cYs zs)) : zs.length = n := by have := h.1; simp [cYs] at this; omega
end Go.Proofs.YtccnogdfnikioaaDoor
