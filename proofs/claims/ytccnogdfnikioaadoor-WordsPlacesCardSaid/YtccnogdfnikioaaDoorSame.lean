/- Rows of words as they are read; the contract of fleuronlaw05.same at equal rows. -/
import Derived.Test.YtccnogdfnikioaaDoorPureSets
import Derived.Test.YtccnogdfnikioaaDoorLeaf
import Derived.LoopTactic
import Derived.WalkSpells
import Derived.Deep.QuietTactic
import Derived.BigQuiet
import Derived.Outline
namespace Go.Proofs.YtccnogdfnikioaaDoor
open Go.RowKit

/-- a slice of rows of words, read from its header A -/
def RowsAt (t : TypeId) (w : World) (A : Option Addr) (rows : List (List P3)) : Prop :=
  0 < rows.length → ∃ b o, A = some ⟨b, o, none⟩ ∧ b < w.heap.size ∧ ∀ i r, rows[i]? = some r → ∃ A2 c2, w.cell? ⟨b, o + i, none⟩ = some (.slice A2 r.length c2) ∧ RdT w t A2 r.length 3 (c3s r)
theorem RowsAt.below {t : TypeId} {w w' : World} {A : Option Addr} {rows : List (List P3)} (h : RowsAt t w A rows) (hb : Below w.heap.size w w') : RowsAt t w' A rows := by
  intro h0
  obtain ⟨b, o, e, hlt, hc⟩ := h h0
  refine ⟨b, o, e, by have := hb.size; omega, fun i r hi => ?_⟩
  obtain ⟨A2, c2, h1, h2⟩ := hc i r hi
  exact ⟨A2, c2, (hb.cell (p := ⟨b, o + i, none⟩) hlt).trans h1, h2.below hb⟩
theorem RowsAt.of {t tr : TypeId} {w w' : World} {rows : List (List P3)} {v : Value} (h : RetRows t tr w w' rows v) : ∃ A c, v = .slice A rows.length c ∧ RowsAt t w' A rows ∧ Below w.heap.size w w' := by
  obtain ⟨A, c, hs, h1, h2, h3, h4⟩ := h
  refine ⟨A, c, h1, fun h0 => ?_, h4⟩
  obtain ⟨b, o, e, hb, hc⟩ := h2.rd.2 h0
  refine ⟨b, o, e, hb, fun i r hi => ?_⟩
  obtain ⟨A2, k2, c2, e1, e2⟩ := h3.2 i r hi
  have hl := e2.rd.len3
  subst hl
  exact ⟨A2, c2, hc i _ e1, e2⟩
theorem RdT.at3 {w : World} {t : TypeId} {A : Option Addr} {n : Nat} {ps : List P3} (h : RdT w t A n 3 (c3s ps)) {k : Nat} {p : P3} (hp : ps[k]? = some p) :
    ∃ b o, A = some ⟨b, o, none⟩ ∧ b < w.heap.size ∧ w.cell? ⟨b, o + k * 3, none⟩ = some (.int .i64 p.1) ∧ w.cell? ⟨b, o + k * 3 + 1, none⟩ = some (.int .i64 p.2.1) ∧ w.cell? ⟨b, o + k * 3 + 2, none⟩ = some (.string ⟨p.2.2.toArray⟩) := by
  have hk := (List.getElem?_eq_some_iff.1 hp).1
  have hl := h.rd.len3
  obtain ⟨b, o, e, hb, hc⟩ := h.rd.2 (by omega)
  obtain ⟨h1, h2, h3⟩ := c3s_get ps k p hp
  exact ⟨b, o, e, hb, hc _ _ h1, hc _ _ h2, hc _ _ h3⟩
set_option maxRecDepth 100000 in
set_option maxHeartbeats 4000000 in
theorem same_ok (w : World) (rows : List (List P3)) (A A' : Option Addr) (c c' : Nat) (hA : RowsAt 35 w A rows) (hA' : RowsAt 36 w A' rows) (hn : rows.length ≤ 1000000) (hm : ∀ (i : Nat) (r : List P3), rows[i]? = some r → r.length ≤ 1000000) :
    Calls Tryd.prog 13 #[.slice A rows.length c, .slice A' rows.length c'] w fun e w' => e = .returned (.bool true) ∧ Below w.heap.size w w' := by
  have hne : ((rows.length : Int) != (rows.length : Int)) = false := by simp
  have HA := Lib.hid hA
  have HA' := Lib.hid hA'
  have HM := Lib.hid hm
  clear hA hA' hm
  go_enter Tryd.func13, Tryd.ntmps13
  go_wp2
  go_loopw [5] (fun i wr => ∃ k q : Nat, k ≤ rows.length ∧ i = .int .i64 k ∧ wr = w.drewN q) (fun i _ => rows.length - (intOf i).toNat)
  case atStart => exact ⟨0, 0, by omega, rfl, rfl⟩
  case round =>
    obtain ⟨k, q, hk, rfl, rfl⟩ := hrel
    by_cases hlt : k < rows.length
    · obtain ⟨r, hr⟩ : ∃ r, rows[k]? = some r := ⟨_, List.getElem?_eq_getElem hlt⟩
      obtain ⟨b, o, rfl, hb, hc⟩ := HA.out (by omega)
      obtain ⟨b', o', rfl, hb', hc'⟩ := HA'.out (by omega)
      obtain ⟨A2, c2, p1, hrd⟩ := hc k r hr
      obtain ⟨A2', c2', p1', hrd'⟩ := hc' k r hr
      have hrl := HM.out k r hr
      have hne2 : ((r.length : Int) != (r.length : Int)) = false := by simp
      have zk : (k : Int) < (rows.length : Int) := by omega
      have zk0 : (0 : Int) ≤ (k : Int) := by omega
      clear hc hc' hr
      go_wp2_with fail
      go_quiet (fail)
      go_wp2
      go_loopw [6] (fun i wr => ∃ j q : Nat, j ≤ r.length ∧ i = .int .i64 j ∧ wr = w.drewN q) (fun i _ => r.length - (intOf i).toNat)
      case atStart => exact ⟨0, _, by omega, rfl, World.drewN_drewN ..⟩
      case round =>
        obtain ⟨j, q2, hj, rfl, rfl⟩ := hrel
        by_cases hjl : j < r.length
        · obtain ⟨p, hp⟩ : ∃ p, r[j]? = some p := ⟨_, List.getElem?_eq_getElem hjl⟩
          obtain ⟨b2, o2, rfl, hb2, x1, x2, x3⟩ := hrd.at3 hp
          obtain ⟨b3, o3, rfl, hb3, y1, y2, y3⟩ := hrd'.at3 hp
          obtain ⟨px, py, pz⟩ := p
          dsimp only at x1 x2 x3 y1 y2 y3
          have n1 : (px != px) = false := by simp
          have n2 : (py != py) = false := by simp
          have n3 : (pz != pz) = false := by simp
          have n4 : (pz == pz) = true := by simp
          have zj : (j : Int) < (r.length : Int) := by omega
          have zj0 : (0 : Int) ≤ (j : Int) := by omega
          clear hp hrd hrd'
          go_wp2_with fail
          go_quiet (fail)
          go_wp2
          go_roundw
          case rel => exact ⟨j + 1, _, by omega, by go_num, rfl⟩
          case measure => simp [intOf]; omega
        · go_wp2
          go_roundw
          case rel => exact ⟨k + 1, _, by omega, by go_num, rfl⟩
          case measure => simp [intOf]; omega
    · go_wp2
      go_ret
      exact ⟨rfl, below_drewN (Below.refl _ _) q⟩
end Go.Proofs.YtccnogdfnikioaaDoor
