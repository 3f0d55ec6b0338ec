/- Plain Lean: the sources of ParseNeeds, ParseWrong, and of the examples, parsed. Printed by gen_fin.py. -/
import Derived.Test.YtkijckccfookeaaGreatDoorPParse
import Derived.Test.YtkijckccfookeaaGreatDoorPbP
namespace Go.Proofs.YtkijckccfookeaaGreatDoor
open Go.RowKit

def needS : List B := [[99, 111, 110, 116, 111, 117, 114, 32, 49, 44, 50, 32, 51, 44, 52], [112, 97, 114, 116, 32, 122, 32, 53, 32, 54], [97, 110, 99, 104, 111, 114, 32, 98, 97, 115, 101, 32, 48, 32, 49, 32, 50], [100, 101, 108, 116, 97, 32, 48, 32, 48, 32, 49, 32, 49], [104, 105, 110, 116, 32, 112, 111, 112], [114, 117, 108, 101, 32, 47, 32, 122, 32, 47, 32, 62]]
def wrongS : List B := [[117, 110, 105, 116, 115, 32, 53], [117, 110, 105, 116], [117, 110, 105, 116, 32, 120], [97, 120, 105, 115, 32, 97, 32, 49, 32, 50], [97, 120, 105, 115, 32, 49, 32, 49, 32, 50, 32, 51], [114, 101, 103, 105, 111, 110, 32, 49, 32, 50], [99, 118, 116, 32, 97], [102, 117, 110, 99, 32, 112, 117, 115, 104, 58, 49, 58, 50], [102, 117, 110, 99, 32, 110, 111, 112], [102, 117, 110, 99, 32, 112, 117, 115, 104, 58], [99, 108, 97, 115, 115, 32, 99], [99, 108, 97, 115, 115, 32, 99, 32, 97, 32, 98], [99, 108, 97, 115, 115, 32, 49, 32, 97], [103, 108, 121, 112, 104, 32, 98], [103, 108, 121, 112, 104, 32, 99, 32, 120], [103, 108, 121, 112, 104, 32, 97, 32, 53], [103, 108, 121, 112, 104, 32, 99, 32, 53, 32, 109, 97, 114, 107, 115], [99, 111, 110, 116, 111, 117, 114], [99, 111, 110, 116, 111, 117, 114, 32, 49], [99, 111, 110, 116, 111, 117, 114, 32, 49, 44, 50, 44, 51], [99, 111, 110, 116, 111, 117, 114, 32, 49, 44, 120], [112, 97, 114, 116, 32, 99, 32, 49, 32, 50], [97, 110, 99, 104, 111, 114, 32, 116, 111, 112, 32, 48, 32, 49, 32, 50], [100, 101, 108, 116, 97, 32, 49, 32, 50, 32, 51], [99, 104, 97, 114, 32, 97, 32, 97], [108, 111, 111, 107, 117, 112, 32, 115, 105, 109, 112, 108, 101], [114, 117, 108, 101, 32, 97, 32, 47, 32, 98, 32, 62], [114, 117, 108, 101, 32, 47, 32, 91, 32, 97, 32, 47, 32, 62, 32, 98], [114, 117, 108, 101, 32, 47, 32, 97, 32, 47, 32, 62, 32, 99], [102, 101, 97, 116, 117, 114, 101, 32, 102, 32, 120]]
def wrongE : List Int := [22, 22, 21, 22, 23, 22, 21, 22, 23, 21, 22, 22, 23, 22, 21, 24, 22, 22, 22, 22, 21, 23, 22, 22, 21, 22, 22, 22, 23, 21]
def needHead (k i : Nat) : B := if k = 5 then [108, 111, 111, 107, 117, 112, 32, 108, 105, 103, 97, 116, 117, 114, 101, 10] else [103, 108, 121, 112, 104, 32] ++ ((97 + i).toUInt8 :: [32, 48, 10])
def needSrc (k n m : Nat) : B := (List.range n).flatMap (needHead k) ++ (needS.getD k [] ++ ([10] ++ ((List.range m).flatMap (fun _ => [108, 111, 111, 107, 117, 112, 32, 99, 104, 97, 105, 110, 10]) ++ [103, 108, 121, 112, 104, 32, 122, 32, 57, 10])))
/-- an answer, as a test -/
def errIs (r : Except (Int × Int) Fnt) (n e : Int) : Bool := match r with | .error (a, b) => a == n && b == e | .ok _ => false
theorem errIs_eq {r : Except (Int × Int) Fnt} {n e : Int} (h : errIs r n e = true) : r = .error (n, e) := by
  unfold errIs at h
  split at h
  · simp only [Bool.and_eq_true, beq_iff_eq] at h
    rw [h.1, h.2]
  · cases h
def okIs (r : Except (Int × Int) Fnt) (f : Fnt) : Bool := match r with | .error _ => false | .ok g => decide (g = f)
theorem okIs_eq {r : Except (Int × Int) Fnt} {f : Fnt} (h : okIs r f = true) : r = .ok f := by
  unfold okIs at h
  split at h
  · cases h
  · rw [of_decide_eq_true h]
/-- what ParseNeeds looks at -/
def gSum (g : Glyph) : Nat := g.ends.length + g.parts.length + g.anchors.length + g.deltas.length + g.hint.length
def needOk (k n : Nat) (r : Except (Int × Int) Fnt) : Bool :=
  match r with
  | .error (l, e) => n == 0 && (l == 1 && e == 22)
  | .ok f => n != 0 && (List.range n).all (fun i => if k = 5 then (match f.lookups[i]? with | some l => (l.rules.length == 1) == (i == n - 1) | none => false)
      else (match f.glyphs[i]? with | some g => decide (gSum g ≤ 100) && (((gSum g == 1) == (i == n - 1)) && (if k = 1 && gSum g == 1 then (match g.parts with | [p] => p.glyph == (n : Int) | _ => false) else true)) | none => false))
theorem need_all : ∀ k : Fin 6, ∀ n : Fin 6, ∀ m : Fin 4, needOk k.val n.val (parseL (needSrc k.val n.val m.val)) = true := by decide +kernel
def wrongHead (n : Nat) : B := [103, 108, 121, 112, 104, 32, 97, 32, 49, 10, 103, 108, 121, 112, 104, 32, 98, 32, 50, 10, 108, 111, 111, 107, 117, 112, 32, 115, 105, 110, 103, 108, 101, 10] ++ List.replicate n 10
def wrongSrc (k n : Nat) : B := wrongHead n ++ (wrongS.getD k [] ++ [10, 117, 110, 105, 116, 32, 53])
def rightSrc (n : Nat) : B := wrongHead n ++ [114, 117, 108, 101, 32, 47, 32, 97, 32, 47, 32, 62, 32, 98, 10, 117, 110, 105, 116, 32, 53]
theorem wrong_all : ∀ k : Fin 30, ∀ n : Fin 10, errIs (parseL (wrongSrc k.val n.val)) (4 + (n.val : Int)) (wrongE.getD k.val 0) = true := by decide +kernel
def rightOk (r : Except (Int × Int) Fnt) : Bool := match r with | .error _ => false | .ok f => f.unit == 5 && f.glyphs.length == 2
theorem right_all : ∀ n : Fin 10, rightOk (parseL (rightSrc n.val)) = true := by decide +kernel
def shown1 : B := [103, 108, 121, 112, 104, 32, 97, 32, 53, 48, 48, 10, 99, 111, 110, 116, 111, 117, 114, 32, 48, 44, 48, 32, 49, 48, 44, 53, 42, 32, 50, 48, 44, 48, 10, 99, 104, 97, 114, 32, 57, 55, 32, 97, 10]
def shown2 : B := [103, 108, 121, 112, 104, 32, 97]
def shownF : Fnt := ⟨0, [⟨[97], 500, false, [⟨0, 0, true⟩, ⟨10, 5, false⟩, ⟨20, 0, true⟩], [2], [], [], [], []⟩], [⟨97, 0⟩], [], [], [], [], [], []⟩
theorem shown1_ok : parseL shown1 = .ok shownF := okIs_eq (by decide +kernel)
theorem shown2_ok : parseL shown2 = .error (1, 22) := errIs_eq (by decide +kernel)
theorem shown3_ok : opN [106, 117, 109, 112, 122] = 36 := by decide +kernel
end Go.Proofs.YtkijckccfookeaaGreatDoor
/- fleuronlaw08.shown: the document's examples are as they are said. -/
namespace Go.Proofs.YtkijckccfookeaaGreatDoor
open Go.RowKit

/-- the first example's font, as cells -/
theorem shown_fnt {w : World} {fc : List Value} (h : FntR w (Dt w) fc shownF) : ∃ b1 o1 c1 b2 o2 c2 A3 c3 A4 c4 A5 c5 A6 c6 A7 c7 A8 c8 b9 o9 c9, fc = [.int .i64 0, .slice (some ⟨b1, o1, none⟩) 1 c1, .slice (some ⟨b2, o2, none⟩) 1 c2, .slice A3 0 c3, .slice A4 0 c4, .slice A5 0 c5, .slice A6 0 c6, .slice A7 0 c7, .slice A8 0 c8] ∧
    b1 < w.heap.size ∧ b2 < w.heap.size ∧ b9 < w.heap.size ∧ w.cell? ⟨b1, o1 + 1, none⟩ = some (.int .i64 500) ∧ w.cell? ⟨b1, o1 + 3, none⟩ = some (.slice (some ⟨b9, o9, none⟩) 3 c9) ∧
    w.cell? ⟨b9, o9 + 3, none⟩ = some (.int .i64 10) ∧ w.cell? ⟨b9, o9 + 4, none⟩ = some (.int .i64 5) ∧ w.cell? ⟨b9, o9 + 5, none⟩ = some (.bool false) ∧ w.cell? ⟨b2, o2, none⟩ = some (.int .i64 97) ∧ w.cell? ⟨b2, o2 + 1, none⟩ = some (.int .i64 0) := by
  obtain ⟨A1, c1, A2, c2, A3, c3, A4, c4, A5, c5, A6, c6, A7, c7, A8, c8, e, -, h1, h2, -⟩ := h
  obtain ⟨b1, o1, x, A13, c13, A14, c14, A15, c15, A16, c16, A17, c17, A18, c18, rfl, hb1, hx, -, q1, -, q3, -, -, -, -, -, -, hp, -⟩ := h1.glyph (k := 0) (by decide)
  have hx1 : x = ⟨[97], 500, false, [⟨0, 0, true⟩, ⟨10, 5, false⟩, ⟨20, 0, true⟩], [2], [], [], [], []⟩ := by have := hx.out; simp only [shownF, List.getElem?_cons_zero, Option.some.injEq] at this; exact this.symm
  subst hx1
  obtain ⟨b2, o2, y, rfl, hb2, hy, p0, p1, -⟩ := h2.chr (k := 0) (by decide)
  have hy1 : y = ⟨97, 0⟩ := by have := hy.out; simp only [shownF, List.getElem?_cons_zero, Option.some.injEq] at this; exact this.symm
  subst hy1
  obtain ⟨b9, o9, z, rfl, hb9, hz, r0, r1, r2, -⟩ := hp.pt (k := 1) (by decide)
  have hz1 : z = ⟨10, 5, false⟩ := by have := hz.out; simp only [List.getElem?_cons_succ, List.getElem?_cons_zero, Option.some.injEq] at this; exact this.symm
  subst hz1
  simp only [Nat.zero_mul, Nat.add_zero, Nat.one_mul] at q1 q3 p0 p1 r0 r1 r2
  have lt : ∀ b, Dt w b → b < w.heap.size := fun b ⟨cs, t, hk, _⟩ => hk.lt
  exact ⟨b1, o1, c1, b2, o2, c2, A3, c3, A4, c4, A5, c5, A6, c6, A7, c7, A8, c8, b9, o9, c13, e, lt _ hb1, lt _ hb2, lt _ hb9, q1, q3, r0, r1, r2, p0, p1⟩
set_option maxRecDepth 100000 in
set_option maxHeartbeats 4000000 in
theorem shown_ok (w : World) (hTb : PTabs w) (hnT : nT ≤ w.heap.size) : Calls Tryz.prog 22 #[] w fun e w' => e = .returned (.bool true) ∧ Below w.heap.size w w' := by
  have hf1 := parseFont_ok w shown1 (by decide) hTb hnT
  rw [shown1_ok] at hf1
  go_enter Tryz.func22, Tryz.ntmps22
  go_wp2_with fail
  refine hf1.mono ?_
  rintro e w1 ⟨hb1, fc, rfl, hfn⟩
  obtain ⟨b1, o1, c1, b2, o2, c2, A3, c3, A4, c4, A5, c5, A6, c6, A7, c7, A8, c8, b9, o9, c9, rfl, zb1, zb2, zb9, q1, q3, r0, r1, r2, p0, p1⟩ := shown_fnt hfn
  clear hf1 hfn
  have hz1 := hb1.size
  have HTB := Lib.hid hTb
  have HB1 := Lib.hid hb1
  clear hTb hb1
  go_wp2_with fail
  obtain ⟨w2, hw2⟩ : ∃ x, (w1.alloc (.cells #[.int .i64 0, .slice (some ⟨b1, o1, none⟩) 1 c1, .slice (some ⟨b2, o2, none⟩) 1 c2, .slice A3 0 c3, .slice A4 0 c4, .slice A5 0 c5, .slice A6 0 c6, .slice A7 0 c7, .slice A8 0 c8] tFnt)) = x := ⟨_, rfl⟩
  rw [hw2]
  have hb2 : Below w1.heap.size w1 w2 := hw2 ▸ (Below.refl _ _).alloc (Nat.le_refl _) _
  have hk2 : Bk w2 w1.heap.size tFnt #[.int .i64 0, .slice (some ⟨b1, o1, none⟩) 1 c1, .slice (some ⟨b2, o2, none⟩) 1 c2, .slice A3 0 c3, .slice A4 0 c4, .slice A5 0 c5, .slice A6 0 c6, .slice A7 0 c7, .slice A8 0 c8] := hw2 ▸ Bk.new _ _ _
  clear hw2
  have hB2 : Below w.heap.size w w2 := HB1.out.trans (hb2.mono HB1.out.size)
  have hf2 := parseFont_ok w2 shown2 (by decide) (HTB.out.below hB2) (Nat.le_trans hnT hB2.size)
  rw [shown2_ok] at hf2
  refine hf2.mono ?_
  rintro e w3 ⟨hb3, rfl⟩
  have hb13 : Below w1.heap.size w1 w3 := hb2.trans (hb3.mono hb2.size)
  have hk3 := hk2.keep (hb3.block _ hk2.lt)
  have HB3 : Hid (Below w.heap.size w w3) := HB1.out.trans (hb13.mono HB1.out.size)
  have q1' := ((bcell hb13).1 _ _ zb1).trans q1
  have q3' := ((bcell hb13).1 _ _ zb1).trans q3
  have r0' := ((bcell hb13).1 _ _ zb9).trans r0
  have r1' := ((bcell hb13).1 _ _ zb9).trans r1
  have r2' := ((bcell hb13).1 _ _ zb9).trans r2
  have p0' := ((bcell hb13).1 _ _ zb2).trans p0
  have p1' := ((bcell hb13).1 _ _ zb2).trans p1
  have f1 := hk3.cell 1
  have f2 := hk3.cell 2
  simp only [List.getElem?_toArray, List.getElem?_cons_succ, List.getElem?_cons_zero] at f1 f2
  have zf := hk3.lt
  have hz3 := hb13.size
  have yb1 := Nat.lt_of_lt_of_le zb1 hz3
  have yb2 := Nat.lt_of_lt_of_le zb2 hz3
  have yb9 := Nat.lt_of_lt_of_le zb9 hz3
  have hpo := parseOp_ok (w3.alloc (.cells zeroF tFnt)) [106, 117, 109, 112, 122] ((HTB.out.below HB3.out).ops.keep (by
    have := (HTB.out.below HB3.out).ops.lt
    rw [heap_alloc_old w3 _ this]))
  rw [shown3_ok] at hpo
  have Hpo := Lib.hid hpo
  clear hb13 hb3 hb2 hB2 hk2 hk3 hf2 q1 q3 r0 r1 r2 p0 p1 hpo
  go_wp2_with fail
  refine Hpo.out.mono ?_
  rintro e w4 ⟨rfl, rfl⟩
  go_wp2_with fail
  go_ret
  exact ⟨rfl, HB3.out.trans ((Below.refl _ _).alloc HB3.out.size _)⟩
end Go.Proofs.YtkijckccfookeaaGreatDoor
