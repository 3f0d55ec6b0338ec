/- The contract of fleuronlaw05.shown: the document's examples. -/
import Derived.Test.YtccnogdfnikioaaDoorLines
import Derived.Test.YtccnogdfnikioaaDoorSets
import Derived.Test.YtccnogdfnikioaaDoorSame
namespace Go.Proofs.YtccnogdfnikioaaDoor
open Go.RowKit

def srcL : B := [97, 32, 91, 32, 98, 93, 32, 35, 32, 99, 10, 32, 100]
def srcRows : List (List P3) := [[(1, 0, [97]), (1, 2, [91]), (1, 4, [98, 93])], [(2, 1, [100])]]
theorem srcL_rows : linesL srcL = srcRows := by decide +kernel
def wds : List P3 := [(0, 0, [120]), (0, 0, [91]), (0, 0, [121]), (0, 0, [64, 90]), (0, 0, [93])]
def wdsRows : List (List P3) := [[(0, 0, [120])], [(0, 0, [121]), (0, 0, [64, 90])]]
theorem wds_sets : setsL wds = some wdsRows := by decide +kernel
/-- the cells of a row of rows -/
theorem RowsAt.get {t : TypeId} {w : World} {A : Option Addr} {rows : List (List P3)} (h : RowsAt t w A rows) (h0 : 0 < rows.length) : ∃ b o, A = some ⟨b, o, none⟩ ∧ b < w.heap.size ∧ ∀ i r, rows[i]? = some r → ∃ A2 c2, w.cell? ⟨b, o + i, none⟩ = some (.slice A2 r.length c2) ∧ RdT w t A2 r.length 3 (c3s r) := h h0
set_option maxRecDepth 100000 in
set_option maxHeartbeats 4000000 in
theorem shown_ok (w : World) : Calls Tryd.prog 12 #[] w fun e w' => e = .returned (.bool true) ∧ Below w.heap.size w w' := by
  have hl := lines_ok w srcL (by decide)
  rw [srcL_rows] at hl
  have Hl := Lib.hid hl
  clear hl
  go_enter Tryd.func12, Tryd.ntmps12
  go_wp2_with fail
  refine (show Calls Tryd.prog 14 _ _ _ from Hl.out).mono ?_
  rintro e w1 ⟨v, rfl, hret⟩
  obtain ⟨A, c, rfl, hat, hb1⟩ := RowsAt.of hret
  clear hret
  go_wp2_with fail
  have hrd : Rd (w1.alloc (.cells #[.int .i64 0, .int .i64 0, .string ⟨#[120]⟩, .int .i64 0, .int .i64 0, .string ⟨#[91]⟩, .int .i64 0, .int .i64 0, .string ⟨#[121]⟩, .int .i64 0, .int .i64 0, .string ⟨#[64, 90]⟩, .int .i64 0, .int .i64 0, .string ⟨#[93]⟩] 35)) (w1.heap.size + 1) (some ⟨w1.heap.size, 0, none⟩) 5 3 (c3s wds) := Rd.new w1 _ 35 5 3 rfl
  refine (sets_ok _ wds (w1.heap.size + 1) (some ⟨w1.heap.size, 0, none⟩) 5 5 hrd (by simp) (by omega)).mono ?_
  rintro e w2 hpost
  unfold SetsPost at hpost
  rw [wds_sets] at hpost
  obtain ⟨v2, rfl, hret2⟩ := hpost
  obtain ⟨A', c', rfl, hat', hb2⟩ := RowsAt.of hret2
  clear hret2 hrd
  have hb12 : Below w1.heap.size w1 w2 := ((Below.refl _ _).alloc (Nat.le_refl _) _).trans (hb2.mono (by simp))
  have hs1 := hb1.size
  have Hbl : Hid (Below w.heap.size w w2) := hb1.trans (hb12.mono hs1)
  have hat2 := hat.below hb12
  obtain ⟨b, o, rfl, hlt, hc⟩ := hat2.get (by decide)
  obtain ⟨b', o', rfl, hlt', hc'⟩ := hat'.get (by decide)
  obtain ⟨B0, d0, p0, r0⟩ := hc 0 _ rfl
  obtain ⟨B1, d1, p1, r1⟩ := hc 1 _ rfl
  obtain ⟨B2, d2, p2, r2⟩ := hc' 0 _ rfl
  obtain ⟨B3, d3, p3, r3⟩ := hc' 1 _ rfl
  obtain ⟨a0, s0, rfl, -, x1, x2, x3⟩ := r0.at3 (k := 2) rfl
  obtain ⟨a1, s1, rfl, -, y1, y2, y3⟩ := r1.at3 (k := 0) rfl
  obtain ⟨a2, s2, rfl, -, z1, z2, z3⟩ := r2.at3 (k := 0) rfl
  obtain ⟨a3, s3, rfl, -, u1, u2, u3⟩ := r3.at3 (k := 1) rfl
  simp only [Nat.add_zero, Nat.zero_mul, Nat.reduceMul, Nat.one_mul] at p0 p1 p2 p3 x1 x2 x3 y1 y2 y3 z1 z2 z3 u1 u2 u3
  clear hc hc' r0 r1 r2 r3 hat hat2 hat' hb1 hb2 hb12
  simp only [srcRows, wdsRows, List.length_cons, List.length_nil, Nat.zero_add, Nat.reduceAdd] at *
  go_wp2_with fail
  go_ret
  exact ⟨rfl, Hbl.out⟩
end Go.Proofs.YtccnogdfnikioaaDoor
