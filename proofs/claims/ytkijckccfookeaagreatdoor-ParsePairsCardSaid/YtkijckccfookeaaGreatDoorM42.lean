/- Plain Lean: the sources of ParseClasses as the program writes them. -/
import Derived.Test.YtkijckccfookeaaGreatDoorM40
import Derived.Test.YtkijckccfookeaaGreatDoorM41
import Derived.Test.YtkijckccfookeaaGreatDoorM13
import Derived.Test.YtkijckccfookeaaGreatDoorM00
import Derived.Test.YtkijckccfookeaaGreatDoorM24
import Derived.Test.YtkijckccfookeaaGreatDoorProg
import Derived.BigQuiet
namespace Go.Proofs.YtkijckccfookeaaGreatDoor
open Go.RowKit

def cGly : B := [103, 108, 121, 112, 104]
def cEnd : B := [32, 48, 10]
def cPart (i : Nat) : B := cGly ++ (32 :: gN i) ++ cEnd
def cS (k : Nat) : B := (List.range k).flatMap cPart
theorem cS_snoc (k : Nat) : cS (k + 1) = cS k ++ cPart k := by
  unfold cS
  rw [List.range_succ, List.flatMap_append]
  simp
theorem gN_len (i : Nat) (h : i ≤ 999) : (gN i).length ≤ 11 := by
  unfold gN
  rw [List.length_cons]
  have := it_len i ⟨by omega, by omega⟩
  omega
theorem cS_len (k : Nat) (h : k ≤ 16) : (cS k).length ≤ 20 * k := by
  induction k with
  | zero => simp [cS]
  | succ k ih =>
    rw [cS_snoc, List.length_append]
    have h1 := ih (by omega)
    have h2 := gN_len k (by omega)
    unfold cPart cGly cEnd
    simp only [List.length_append, List.length_cons, List.length_nil]
    omega
theorem it_zero : itB 0 = [48] := by decide +kernel
theorem cS_lines (n : Nat) (G : List Glyph) : (((List.range n).map gGly).flatMap (glyL G false)).flatMap lnB = cS n := by
  induction n with
  | zero => rfl
  | succ n ih =>
    rw [List.range_succ, List.map_append, List.flatMap_append, List.flatMap_append, ih, cS_snoc]
    congr 1
    simp [glyL, gGly, gyL, contsFrom, lnB, lineB, moreB, cPart, cGly, cEnd, it_zero]
theorem cS_head : gHead.flatMap lnB = cS 8 := cS_lines 8 _
def cA1 : B := [99, 108, 97, 115, 115, 32, 111, 110, 101, 32, 91]
def cA2 : B := [99, 108, 97, 115, 115, 32, 116, 119, 111, 32, 91]
def cZ : B := [32, 93, 10]
def cAt (b : Bool) : B := if b then [32, 64, 111, 110, 101] else []
def cR1 : B := [108, 111, 111, 107, 117, 112, 32, 99, 104, 97, 105, 110, 10, 114, 117, 108, 101, 32, 64, 116, 119, 111, 32, 91, 32, 64, 111, 110, 101, 32, 64, 116, 119, 111, 32, 93, 32, 47, 32, 64, 111, 110, 101, 32, 47, 32, 62, 10]
def cR2 : B := [108, 111, 111, 107, 117, 112, 32, 99, 104, 97, 105, 110, 10, 114, 117, 108, 101, 32, 64, 116, 104, 114, 101, 101, 32, 47, 32, 64, 111, 110, 101, 32, 47, 32, 62, 10]
def cSB : B := [99, 108, 97, 115, 115, 32, 116, 119, 111, 32, 64, 116, 119, 111, 10]
theorem fir_line (x : List Int) : lnB (firL x) = cA1 ++ moreB (x.map gN) ++ cZ := by
  simp [lnB, firL, clL, lineB, moreB, cA1, cZ, tOne]
theorem sec_line (y : List Int) (b : Bool) : lnB (secL y b) = cA2 ++ (moreB (y.map gN) ++ cAt b) ++ cZ := by
  cases b <;> simp [lnB, secL, clL, lineB, moreB, cA2, cZ, tTwo, tOne, cAt]
theorem r1_lines : lnB chainL ++ lnB ruleW1 = cR1 := by decide
theorem r2_lines : lnB chainL ++ lnB ruleBad = cR2 := by decide
theorem sb_line : lnB secBad = cSB := by decide
section
variable (x y : List Int) (b : Bool) (hx : ∀ n ∈ x, In 8 n) (hy : ∀ n ∈ y, In 8 n) (hxl : x.length ≤ 8) (hyl : y.length ≤ 8)
def clsF (x y : List Int) (b : Bool) : Fnt := ⟨0, gGs 8, [], [⟨4, false, [⟨[setOf (yAll x y b), setOf (x ++ yAll x y b)], [setOf x], [], [], [], 0⟩]⟩], [], [], [], [], []⟩
include hx hy hxl hyl in
theorem cls0 : parseL (cS 8 ++ (cA1 ++ moreB (x.map gN) ++ cZ) ++ (cA2 ++ (moreB (y.map gN) ++ cAt b) ++ cZ) ++ cR1) = .ok (clsF x y b) := by
  have h := cls_right x y b hx hy hxl hyl
  rw [← fir_line, ← sec_line, ← cS_head, ← r1_lines]
  simpa [clsF] using h
include hx hy hxl in
theorem cls1 : parseL (cS 8 ++ ((cA1 ++ moreB (x.map gN) ++ cZ) ++ (cA1 ++ moreB (x.map gN) ++ cZ)) ++ (cA2 ++ (moreB (y.map gN) ++ cAt b) ++ cZ) ++ cR1) = .error (10, 24) := by
  have h := cls_twice x [secL y b, chainL, ruleW1] (fun l hl => by
    simp only [List.mem_cons, List.not_mem_nil, or_false] at hl
    rcases hl with rfl | rfl | rfl
    · exact ok_clL (by decide) (sec_w hy).2
    · decide
    · decide) (noG_tail _ (by simp [secL, clL, chainL, ruleW1])) hx hxl
  rw [← fir_line, ← sec_line, ← cS_head, ← r1_lines]
  simpa using h
include hx hy hxl hyl in
theorem cls2 : parseL (cS 8 ++ (cA1 ++ moreB (x.map gN) ++ cZ) ++ (cA2 ++ (moreB (y.map gN) ++ cAt b) ++ cZ) ++ cR2) = .error (12, 23) := by
  have h := cls_name x y b hx hy hxl hyl
  rw [← fir_line, ← sec_line, ← cS_head, ← r2_lines]
  simpa using h
include hx hxl in
theorem cls3 : parseL (cS 8 ++ (cA1 ++ moreB (x.map gN) ++ cZ) ++ cSB ++ cR1) = .error (10, 23) := by
  have h := cls_self x [chainL, ruleW1] (by unfold okL; decide) (noG_tail _ (by simp [chainL, ruleW1])) hx hxl
  rw [← fir_line, ← cS_head, ← r1_lines, ← sb_line]
  simpa using h
end
theorem fl_ints {w : World} {S : Bs} {cells : List Value} {xs : List Int} (h : Fl IntR 1 w S cells xs) : cells = cIs xs := by
  apply List.ext_getElem?
  intro k
  by_cases hk : k < xs.length
  · have hx : xs[k]? = some xs[k] := List.getElem?_eq_getElem hk
    obtain ⟨cs, ⟨rfl, -⟩, -, h3⟩ := h.2 k _ hx
    have := h3 0 _ rfl
    simp only [Nat.mul_one, Nat.add_zero] at this
    rw [this, cIs_get _ _ _ hx]
  · rw [List.getElem?_eq_none (by rw [h.1]; omega), List.getElem?_eq_none (by simp [cIs]; omega)]
theorem sl_rdI {w : World} {S : Bs} {A : Option Addr} {xs : List Int} (h : Sl IntR 1 w S A xs) (hS : ∀ b, S b → b < w.heap.size) : Rd w w.heap.size A xs.length 1 (cIs xs) := by
  obtain ⟨cells, h1, h2⟩ := h
  rw [fl_ints h1] at h2
  refine ⟨by simp [cIs], fun h0 => ?_⟩
  obtain ⟨b, o, e, hb, hc⟩ := h2 h0
  exact ⟨b, o, e, hS b hb, hc⟩
/-- the font of ParseClasses, as cells -/
theorem cls_fnt {w : World} {fc : List Value} {g : List Glyph} {k : Int} {r1 r2 r3 : List Int} (h : FntR w (Dt w) fc ⟨0, g, [], [⟨k, false, [⟨[r1, r2], [r3], [], [], [], 0⟩]⟩], [], [], [], [], []⟩) :
    ∃ A1 d1 A2 d2 b3 o3 d3 A4 d4 A5 d5 A6 d6 A7 d7 A8 d8 b4 o4 d14 b5 o5 d15 b6 o6 d16 A17 d17 A18 d18 A19 d19 B1 e1 B2 e2 B3 e3, fc = [.int .i64 0, .slice A1 g.length d1, .slice A2 0 d2, .slice (some ⟨b3, o3, none⟩) 1 d3, .slice A4 0 d4, .slice A5 0 d5, .slice A6 0 d6, .slice A7 0 d7, .slice A8 0 d8] ∧
      (b3 < w.heap.size ∧ b4 < w.heap.size ∧ b5 < w.heap.size ∧ b6 < w.heap.size) ∧ w.cell? ⟨b3, o3 + 2, none⟩ = some (.slice (some ⟨b4, o4, none⟩) 1 d14) ∧
      w.cell? ⟨b4, o4, none⟩ = some (.slice (some ⟨b5, o5, none⟩) 2 d15) ∧ w.cell? ⟨b4, o4 + 1, none⟩ = some (.slice (some ⟨b6, o6, none⟩) 1 d16) ∧ w.cell? ⟨b4, o4 + 2, none⟩ = some (.slice A17 0 d17) ∧ w.cell? ⟨b4, o4 + 3, none⟩ = some (.slice A18 0 d18) ∧ w.cell? ⟨b4, o4 + 4, none⟩ = some (.slice A19 0 d19) ∧ w.cell? ⟨b4, o4 + 5, none⟩ = some (.int .i64 0) ∧
      w.cell? ⟨b5, o5, none⟩ = some (.slice B1 r1.length e1) ∧ w.cell? ⟨b5, o5 + 1, none⟩ = some (.slice B2 r2.length e2) ∧ w.cell? ⟨b6, o6, none⟩ = some (.slice B3 r3.length e3) ∧
      Rd w w.heap.size B1 r1.length 1 (cIs r1) ∧ Rd w w.heap.size B2 r2.length 1 (cIs r2) ∧ Rd w w.heap.size B3 r3.length 1 (cIs r3) := by
  obtain ⟨A1, c1, A2, c2, A3, c3, A4, c4, A5, c5, A6, c6, A7, c7, A8, c8, e, -, -, -, h3, -⟩ := h
  obtain ⟨b3, o3, x, A13, c13, rfl, hb3, hx, -, -, q2, -, hr⟩ := h3.lookup (k := 0) (by simp)
  have hx1 : x = ⟨k, false, [⟨[r1, r2], [r3], [], [], [], 0⟩]⟩ := by have := hx.out; simp only [List.getElem?_cons_zero, Option.some.injEq] at this; exact this.symm
  subst hx1
  obtain ⟨b4, o4, y, A15, c15, A16, c16, A17, c17, A18, c18, A19, c19, rfl, hb4, hy, p0, p1, p2, p3, p4, p5, -, s0, s1, -⟩ := hr.rule (k := 0) (by simp)
  have hy1 : y = ⟨[r1, r2], [r3], [], [], [], 0⟩ := by have := hy.out; simp only [List.getElem?_cons_zero, Option.some.injEq] at this; exact this.symm
  subst hy1
  obtain ⟨b5, o5, z1, B1, e1, rfl, hb5, hz1, u1, v1⟩ := s0.row (k := 0) (by simp)
  have hz1' : z1 = r1 := by have := hz1.out; simp only [List.getElem?_cons_zero, Option.some.injEq] at this; exact this.symm
  subst hz1'
  obtain ⟨b5', o5', z2, B2, e2, ee, -, hz2, u2, v2⟩ := s0.row (k := 1) (by simp)
  simp only [Option.some.injEq, Addr.mk.injEq, and_true] at ee
  obtain ⟨rfl, rfl⟩ := ee
  have hz2' : z2 = r2 := by have := hz2.out; simp only [List.getElem?_cons_succ, List.getElem?_cons_zero, Option.some.injEq] at this; exact this.symm
  subst hz2'
  obtain ⟨b6, o6, z3, B3, e3, rfl, hb6, hz3, u3, v3⟩ := s1.row (k := 0) (by simp)
  have hz3' : z3 = r3 := by have := hz3.out; simp only [List.getElem?_cons_zero, Option.some.injEq] at this; exact this.symm
  subst hz3'
  simp only [Nat.zero_mul, Nat.add_zero] at q2 p0 p1 p2 p3 p4 p5 u1 u2 u3
  have lt : ∀ b, Dt w b → b < w.heap.size := fun b ⟨cs, t, hk, _⟩ => hk.lt
  exact ⟨A1, c1, A2, c2, b3, o3, c3, A4, c4, A5, c5, A6, c6, A7, c7, A8, c8, b4, o4, c13, b5, o5, c15, b6, o6, c16, A17, c17, A18, c18, A19, c19, B1, e1, B2, e2, B3, e3, e, ⟨lt _ hb3, lt _ hb4, lt _ hb5, lt _ hb6⟩, q2, p0, p1, p2, p3, p4, p5, u1, u2, u3, sl_rdI v1 lt, sl_rdI v2 lt, sl_rdI v3 lt⟩
end Go.Proofs.YtkijckccfookeaaGreatDoor
/- Plain Lean: the sources of ParsePairs as the program writes them; its font in memory. -/
namespace Go.Proofs.YtkijckccfookeaaGreatDoor
open Go.RowKit

theorem nodup_len (l : List Int) : ∀ m : List Int, l.Nodup → (∀ x ∈ l, x ∈ m) → l.length ≤ m.length := by
  induction l with
  | nil => intro m _ _; exact Nat.zero_le _
  | cons a r ih =>
    intro m hn h
    rw [List.nodup_cons] at hn
    have ha : a ∈ m := h a (by simp)
    have h1 := ih (m.erase a) hn.2 (fun x hx => (List.mem_erase_of_ne (fun (e : x = a) => hn.1 (by rw [← e]; exact hx))).2 (h x (by simp [hx])))
    rw [List.length_erase_of_mem ha] at h1
    have := List.length_pos_of_mem ha
    rw [List.length_cons]
    omega
theorem in8_len {ns : List Int} (hn : ns.Nodup) (h : ∀ n ∈ ns, In 8 n) : ns.length ≤ 8 := by
  have hs : ∀ x ∈ ns, x ∈ ([0, 1, 2, 3, 4, 5, 6, 7] : List Int) := fun x hx => by
    obtain ⟨a, b⟩ := h x hx
    have : x = 0 ∨ x = 1 ∨ x = 2 ∨ x = 3 ∨ x = 4 ∨ x = 5 ∨ x = 6 ∨ x = 7 := by omega
    simpa using this
  exact nodup_len ns _ hn hs
def pLook : B := [108, 111, 111, 107, 117, 112, 32]
def pRule : B := [10, 114, 117, 108, 101, 32, 47, 32, 91]
def pMid : B := [32, 93, 32, 47, 32, 62]
theorem pHead_src (rev : Bool) : (pHead rev).flatMap lnB = cS 16 ++ (pLook ++ kName rev ++ [10]) := by
  unfold pHead gGs
  rw [List.flatMap_append, cS_lines 16]
  congr 1
  cases rev <;> decide
theorem psrc_eq (rev : Bool) (l r : List Int) (more : List B) : psrc rev l r more = cS 16 ++ pLook ++ kName rev ++ pRule ++ moreB (l.map gN) ++ pMid ++ (moreB (r.map gN) ++ moreB more) := by
  unfold psrc
  rw [pHead_src]
  simp [moreB, pLook, pRule, pMid]
theorem kName_len (rev : Bool) : (kName rev).length ≤ 7 := by cases rev <;> decide
def pairF (rev : Bool) (ns : List Int) : Fnt := ⟨0, gGs 16, [], [⟨kNum rev, false, [⟨[], [setOf ns], [], (setOf ns).map (15 - ·), [], 0⟩]⟩], [], [], [], [], []⟩
/-- the font of ParsePairs, as cells -/
theorem pair_fnt {w : World} {fc : List Value} {g : List Glyph} {k : Int} {r1 o1 : List Int} (h : FntR w (Dt w) fc ⟨0, g, [], [⟨k, false, [⟨[], [r1], [], o1, [], 0⟩]⟩], [], [], [], [], []⟩) :
    ∃ A1 d1 A2 d2 b3 o3 d3 A4 d4 A5 d5 A6 d6 A7 d7 A8 d8 b4 o4 d14 A15 d15 b6 o6 d16 A17 d17 A18 d18 A19 d19 B1 e1, fc = [.int .i64 0, .slice A1 g.length d1, .slice A2 0 d2, .slice (some ⟨b3, o3, none⟩) 1 d3, .slice A4 0 d4, .slice A5 0 d5, .slice A6 0 d6, .slice A7 0 d7, .slice A8 0 d8] ∧
      (b3 < w.heap.size ∧ b4 < w.heap.size ∧ b6 < w.heap.size) ∧ w.cell? ⟨b3, o3 + 2, none⟩ = some (.slice (some ⟨b4, o4, none⟩) 1 d14) ∧
      w.cell? ⟨b4, o4, none⟩ = some (.slice A15 0 d15) ∧ w.cell? ⟨b4, o4 + 1, none⟩ = some (.slice (some ⟨b6, o6, none⟩) 1 d16) ∧ w.cell? ⟨b4, o4 + 2, none⟩ = some (.slice A17 0 d17) ∧ w.cell? ⟨b4, o4 + 3, none⟩ = some (.slice A18 o1.length d18) ∧ w.cell? ⟨b4, o4 + 4, none⟩ = some (.slice A19 0 d19) ∧ w.cell? ⟨b4, o4 + 5, none⟩ = some (.int .i64 0) ∧
      w.cell? ⟨b6, o6, none⟩ = some (.slice B1 r1.length e1) ∧ Rd w w.heap.size B1 r1.length 1 (cIs r1) ∧ Rd w w.heap.size A18 o1.length 1 (cIs o1) := by
  obtain ⟨A1, c1, A2, c2, A3, c3, A4, c4, A5, c5, A6, c6, A7, c7, A8, c8, e, -, -, -, h3, -⟩ := h
  obtain ⟨b3, o3, x, A13, c13, rfl, hb3, hx, -, -, q2, -, hr⟩ := h3.lookup (k := 0) (by simp)
  have hx1 : x = ⟨k, false, [⟨[], [r1], [], o1, [], 0⟩]⟩ := by have := hx.out; simp only [List.getElem?_cons_zero, Option.some.injEq] at this; exact this.symm
  subst hx1
  obtain ⟨b4, o4, y, A15, c15, A16, c16, A17, c17, A18, c18, A19, c19, rfl, hb4, hy, p0, p1, p2, p3, p4, p5, -, s0, s1, -, s3, -⟩ := hr.rule (k := 0) (by simp)
  have hy1 : y = ⟨[], [r1], [], o1, [], 0⟩ := by have := hy.out; simp only [List.getElem?_cons_zero, Option.some.injEq] at this; exact this.symm
  subst hy1
  obtain ⟨b6, o6, z3, B3, e3, rfl, hb6, hz3, u3, v3⟩ := s1.row (k := 0) (by simp)
  have hz3' : z3 = r1 := by have := hz3.out; simp only [List.getElem?_cons_zero, Option.some.injEq] at this; exact this.symm
  subst hz3'
  simp only [Nat.zero_mul, Nat.add_zero] at q2 p0 p1 p2 p3 p4 p5 u3
  have lt : ∀ b, Dt w b → b < w.heap.size := fun b ⟨cs, t, hk, _⟩ => hk.lt
  exact ⟨A1, c1, A2, c2, b3, o3, c3, A4, c4, A5, c5, A6, c6, A7, c7, A8, c8, b4, o4, c13, A15, c15, b6, o6, c16, A17, c17, A18, c18, A19, c19, B3, e3, e, ⟨lt _ hb3, lt _ hb4, lt _ hb6⟩, q2, p0, p1, p2, p3, p4, p5, u3, sl_rdI v3 lt, sl_rdI s3 lt⟩
end Go.Proofs.YtkijckccfookeaaGreatDoor
/- fleuronref06: Has, Same. -/
namespace Go.Proofs.YtkijckccfookeaaGreatDoor
open Go.RowKit

theorem ints_at {w w' : World} {A : Option Addr} {n : Nat} {l : List Int} (h : Rd w w.heap.size A n 1 (cIs l)) (hb : Below w.heap.size w w') {k : Nat} (hk : k < n) : ∃ b o x, A = some ⟨b, o, none⟩ ∧ Hid (l[k]? = some x) ∧ w'.cell? ⟨b, o + k, none⟩ = some (.int .i64 x) := by
  obtain ⟨b, o, x, rfl, hbb, hx, q⟩ := h.atI hk
  exact ⟨b, o, x, rfl, hx, ((bcell hb).1 _ _ hbb).trans q⟩
set_option maxRecDepth 100000 in
set_option maxHeartbeats 4000000 in
theorem has_ok (w : World) (A : Option Addr) (n c : Nat) (l : List Int) (x : Int) (h : Rd w w.heap.size A n 1 (cIs l)) (hn : n ≤ 1000000000) :
    Calls Tryz.prog 30 #[.slice A n c, .int .i64 x] w fun e w' => e = .returned (.bool (decide (x ∈ l))) ∧ Below w.heap.size w w' := by
  have HL := Lib.hid h.lenI
  have HR := Lib.hid h
  clear h
  go_enter Tryz.func30, Tryz.ntmps30
  go_wp2_with fail
  go_loopw [5] (fun i wr => ∃ k : Nat, k ≤ n ∧ i = .int .i64 k ∧ Hid (x ∉ l.take k) ∧ w = wr) (fun i _ => n - (intOf i).toNat)
  case atStart => exact ⟨0, Nat.zero_le _, rfl, by show _ ∉ _; simp, rfl⟩
  case round =>
    obtain ⟨k, hk, rfl, hno, rfl⟩ := hrel
    by_cases hlt : k < n
    · obtain ⟨b, o, y, rfl, hy, q⟩ := ints_at HR.out (Below.refl _ _) hlt
      by_cases e : y = x
      · subst e
        have HM : Hid (decide (y ∈ l) = true) := by
          show _ = _
          exact decide_eq_true (List.mem_of_getElem? hy.out)
        go_wp2_with fail
        go_ret
        exact ⟨by rw [HM.out]; rfl, Below.refl _ _⟩
      · have e1 : (y == x) = false := by simpa using e
        have hno2 : Hid (x ∉ l.take (k + 1)) := by
          show _ ∉ _
          rw [List.take_add_one, hy.out, List.mem_append]
          rintro (h1 | h1)
          · exact hno.out h1
          · exact e (by simpa using h1 : x = y).symm
        go_wp2_with fail
        go_roundw
        case rel => exact ⟨k + 1, by omega, by simp, hno2, by simp⟩
        case measure => simp [intOf]; omega
    · have HM : Hid (decide (x ∈ l) = false) := by
        show _ = _
        have := hno.out
        rw [List.take_of_length_le (by rw [HL.out]; omega)] at this
        exact decide_eq_false this
      go_wp2_with fail
      go_ret
      exact ⟨by rw [HM.out]; rfl, Below.refl _ _⟩
set_option maxRecDepth 100000 in
set_option maxHeartbeats 4000000 in
theorem same06_ok (w : World) (A1 A2 : Option Addr) (n1 n2 c1 c2 : Nat) (l1 l2 : List Int) (h1 : Rd w w.heap.size A1 n1 1 (cIs l1)) (h2 : Rd w w.heap.size A2 n2 1 (cIs l2)) (hn : n1 ≤ 1000000000) :
    Calls Tryz.prog 32 #[.slice A1 n1 c1, .slice A2 n2 c2] w fun e w' => e = .returned (.bool (decide (l1 = l2))) ∧ Below w.heap.size w w' := by
  have HL1 := Lib.hid h1.lenI
  have HL2 := Lib.hid h2.lenI
  have HR1 := Lib.hid h1
  have HR2 := Lib.hid h2
  clear h1 h2
  by_cases hne : n1 = n2
  · subst hne
    go_enter Tryz.func32, Tryz.ntmps32
    go_wp2_with fail
    go_loopw [5] (fun i wr => ∃ k : Nat, k ≤ n1 ∧ i = .int .i64 k ∧ Hid (l1.take k = l2.take k) ∧ Below w.heap.size w wr) (fun i _ => n1 - (intOf i).toNat)
    case atStart => exact ⟨0, Nat.zero_le _, rfl, by show _ = _; simp, Below.refl _ _⟩
    case round =>
      obtain ⟨k, hk, rfl, hno, hb⟩ := hrel
      by_cases hlt : k < n1
      · obtain ⟨b, o, y, rfl, hy, q⟩ := ints_at HR1.out hb hlt
        obtain ⟨b2, o2, z, rfl, hz, q2⟩ := ints_at HR2.out hb hlt
        by_cases e : y = z
        · subst e
          have hno2 : Hid (l1.take (k + 1) = l2.take (k + 1)) := by
            show _ = _
            rw [List.take_add_one, hy.out, List.take_add_one, hz.out, hno.out]
          have HB := Lib.hid hb
          clear hb
          go_wp2_with fail
          go_quiet (fail)
          go_wp2_with fail
          go_roundw
          case rel => exact ⟨k + 1, by omega, by simp, hno2, below_drewN HB.out _⟩
          case measure => simp [intOf]; omega
        · have e1 : (y != z) = true := by simpa using e
          have HM : Hid (decide (l1 = l2) = false) := by
            show _ = _
            refine decide_eq_false fun h => ?_
            have := hy.out
            rw [h, hz.out] at this
            injection this with this
            exact e this.symm
          have HB := Lib.hid hb
          clear hb
          go_wp2_with fail
          go_quiet (fail)
          go_wp2_with fail
          go_ret
          exact ⟨by rw [HM.out]; rfl, below_drewN HB.out _⟩
      · have HM : Hid (decide (l1 = l2) = true) := by
          show _ = _
          have := hno.out
          rw [List.take_of_length_le (by rw [HL1.out]; omega), List.take_of_length_le (by rw [HL2.out]; omega)] at this
          exact decide_eq_true this
        go_wp2_with fail
        go_ret
        exact ⟨by rw [HM.out]; rfl, hb⟩
  · have HM : Hid (decide (l1 = l2) = false) := by
      show _ = _
      refine decide_eq_false fun h => hne ?_
      rw [← HL1.out, ← HL2.out, h]
    have e1 : ((n1 : Int) != n2) = true := by simp; omega
    go_enter Tryz.func32, Tryz.ntmps32
    go_wp2_with fail
    go_ret
    exact ⟨by rw [HM.out]; rfl, Below.refl _ _⟩
theorem same06_self (w : World) (A1 A2 : Option Addr) (n1 n2 c1 c2 : Nat) (l : List Int) (h1 : Rd w w.heap.size A1 n1 1 (cIs l)) (h2 : Rd w w.heap.size A2 n2 1 (cIs l)) (hn : n1 ≤ 1000000000) :
    Calls Tryz.prog 32 #[.slice A1 n1 c1, .slice A2 n2 c2] w fun e w' => e = .returned (.bool true) ∧ Below w.heap.size w w' := by
  have h := same06_ok w A1 A2 n1 n2 c1 c2 l l h1 h2 hn
  simpa using h
end Go.Proofs.YtkijckccfookeaaGreatDoor
/- Plain Lean: a set made number by number. -/
namespace Go.Proofs.YtkijckccfookeaaGreatDoor
open Go.RowKit

theorem ins_at (x : Int) (l : List Int) : ∀ k, k ≤ l.length → (∀ j y, j < k → l[j]? = some y → y < x) →
    (l[k]? = some x → insS x l = l) ∧ ((∀ y, l[k]? = some y → x < y) → insS x l = l.take k ++ x :: l.drop k) := by
  induction l with
  | nil =>
    intro k hk _
    obtain rfl : k = 0 := by simpa using hk
    exact ⟨fun h => by simp at h, fun _ => rfl⟩
  | cons a r ih =>
    intro k hk h
    cases k with
    | zero =>
      refine ⟨fun e => ?_, fun e => ?_⟩
      · simp only [List.getElem?_cons_zero, Option.some.injEq] at e
        subst e
        rw [insS, if_neg (by omega), if_pos rfl]
      · have := e a rfl
        rw [insS, if_pos this]
        rfl
    | succ k =>
      have h0 := h 0 a (by omega) rfl
      obtain ⟨i1, i2⟩ := ih k (by simpa using hk) (fun j y hj hy => h (j + 1) y (by omega) hy)
      refine ⟨fun e => ?_, fun e => ?_⟩
      · rw [insS, if_neg (by omega), if_neg (by omega), i1 (by simpa using e)]
      · rw [insS, if_neg (by omega), if_neg (by omega), i2 (fun y hy => e y (by simpa using hy))]
        rfl
def ofL (l : List Int) : List Int := l.foldl (fun s n => insS n s) []
theorem ofL_snoc (l : List Int) (x : Int) : ofL (l ++ [x]) = insS x (ofL l) := by simp [ofL]
theorem ofL_up (l : List Int) : (ofL l).Pairwise (· < ·) ∧ ∀ x, x ∈ ofL l ↔ x ∈ l := by
  have key : ∀ (l s : List Int), s.Pairwise (· < ·) → ((l.foldl (fun s n => insS n s) s).Pairwise (· < ·) ∧ ∀ x, x ∈ l.foldl (fun s n => insS n s) s ↔ x ∈ s ∨ x ∈ l) := by
    intro l
    induction l with
    | nil => intro s hs; exact ⟨hs, by simp⟩
    | cons a r ih =>
      intro s hs
      obtain ⟨h1, h2⟩ := ih (insS a s) (insS_up a s hs)
      refine ⟨h1, fun x => ?_⟩
      rw [List.foldl_cons, h2, mem_insS, List.mem_cons]
      constructor
      · rintro ((h | h) | h)
        · exact .inr (.inl h)
        · exact .inl h
        · exact .inr (.inr h)
      · rintro (h | h | h)
        · exact .inl (.inr h)
        · exact .inl (.inl h)
        · exact .inr h
  have := key l [] .nil
  exact ⟨this.1, fun x => by rw [ofL, this.2]; simp⟩
theorem ofL_set (l : List Int) : ofL l = setOf l := up_uniq _ _ (ofL_up l).1 (setOf_up l) (fun x => by rw [(ofL_up l).2, mem_setOf])
theorem ofL_len (l : List Int) : (ofL l).length ≤ l.length := by rw [ofL_set]; exact setOf_len l
end Go.Proofs.YtkijckccfookeaaGreatDoor
