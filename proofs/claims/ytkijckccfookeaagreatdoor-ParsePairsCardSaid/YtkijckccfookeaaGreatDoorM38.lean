/- Plain Lean: the sources of ParseNeeds, ParseWrong, and of the examples, parsed. Printed by gen_fin.py. -/
import Derived.Test.YtkijckccfookeaaGreatDoorM04
import Derived.Test.YtkijckccfookeaaGreatDoorPbP
import Derived.Test.YtkijckccfookeaaGreatDoorM32
namespace Go.Proofs.YtkijckccfookeaaGreatDoor
open Go.RowKit

def needS : List B := [[99, 111, 110, 116, 111, 117, 114, 32, 49, 44, 50, 32, 51, 44, 52], [112, 97, 114, 116, 32, 122, 32, 53, 32, 54], [97, 110, 99, 104, 111, 114, 32, 98, 97, 115, 101, 32, 48, 32, 49, 32, 50], [100, 101, 108, 116, 97, 32, 48, 32, 48, 32, 49, 32, 49], [104, 105, 110, 116, 32, 112, 111, 112], [114, 117, 108, 101, 32, 47, 32, 122, 32, 47, 32, 62]]
def wrongS : List B := [[117, 110, 105, 116, 115, 32, 53], [117, 110, 105, 116], [117, 110, 105, 116, 32, 120], [97, 120, 105, 115, 32, 97, 32, 49, 32, 50], [97, 120, 105, 115, 32, 49, 32, 49, 32, 50, 32, 51], [114, 101, 103, 105, 111, 110, 32, 49, 32, 50], [99, 118, 116, 32, 97], [102, 117, 110, 99, 32, 112, 117, 115, 104, 58, 49, 58, 50], [102, 117, 110, 99, 32, 110, 111, 112], [102, 117, 110, 99, 32, 112, 117, 115, 104, 58], [99, 108, 97, 115, 115, 32, 99], [99, 108, 97, 115, 115, 32, 99, 32, 97, 32, 98], [99, 108, 97, 115, 115, 32, 49, 32, 97], [103, 108, 121, 112, 104, 32, 98], [103, 108, 121, 112, 104, 32, 99, 32, 120], [103, 108, 121, 112, 104, 32, 97, 32, 53], [103, 108, 121, 112, 104, 32, 99, 32, 53, 32, 109, 97, 114, 107, 115], [99, 111, 110, 116, 111, 117, 114], [99, 111, 110, 116, 111, 117, 114, 32, 49], [99, 111, 110, 116, 111, 117, 114, 32, 49, 44, 50, 44, 51], [99, 111, 110, 116, 111, 117, 114, 32, 49, 44, 120], [112, 97, 114, 116, 32, 99, 32, 49, 32, 50], [97, 110, 99, 104, 111, 114, 32, 116, 111, 112, 32, 48, 32, 49, 32, 50], [100, 101, 108, 116, 97, 32, 49, 32, 50, 32, 51], [99, 104, 97, 114, 32, 97, 32, 97], [108, 111, 111, 107, 117, 112, 32, 115, 105, 109, 112, 108, 101], [114, 117, 108, 101, 32, 97, 32, 47, 32, 98, 32, 62], [114, 117, 108, 101, 32, 47, 32, 91, 32, 97, 32, 47, 32, 62, 32, 98], [114, 117, 108, 101, 32, 47, 32, 97, 32, 47, 32, 62, 32, 99], [102, 101, 97, 116, 117, 114, 101, 32, 102, 32, 120]]
def wrongE : List Int := [22, 22, 21, 22, 23, 22, 21, 22, 23, 21, 22, 22, 23, 22, 21, 24, 22, 22, 22, 22, 21, 23, 22, 22, 21, 22, 22, 22, 23, 21]
def needHead (k i : Nat) : B := if k = 5 then [108, 111, 111, 107, 117, 112, 32, 108, 105, 103, 97, 116, 117, 114, 101, 10] else [103, 108, 121, 112, 104, 32] ++ ((97 + i).toUInt8 :: [32, 48, 10])
def needSrc (k n m : Nat) : B := (List.range n).flatMap (needHead k) ++ (needS.getD k [] ++ ([10] ++ ((List.range m).flatMap (fun _ => [108, 111, 111, 107, 117, 112, 32, 99, 104, 97, 105, 110, 10]) ++ [103, 108, 121, 112, 104, 32, 122, 32, 57, 10])))
/-- an answer, as a test -/
def errIs (r : Except (Int × Int) Fnt) (n e : Int) : Bool := match r with | .error (a, b) => a == n && b == e | .ok _ => false
theorem errIs_eq {r : Except (Int × Int) Fnt} {n e : Int} (h : errIs r n e = true) : r = .error (n, e) := by
  unfold errIs at h
  split at h
  · simp only [Bool.and_eq_true, beq_iff_eq] at h
    rw [h.1, h.2]
  · cases h
def okIs (r : Except (Int × Int) Fnt) (f : Fnt) : Bool := match r with | .error _ => false | .ok g => decide (g = f)
theorem okIs_eq {r : Except (Int × Int) Fnt} {f : Fnt} (h : okIs r f = true) : r = .ok f := by
  unfold okIs at h
  split at h
  · cases h
  · rw [of_decide_eq_true h]
/-- what ParseNeeds looks at -/
def gSum (g : Glyph) : Nat := g.ends.length + g.parts.length + g.anchors.length + g.deltas.length + g.hint.length
def needOk (k n : Nat) (r : Except (Int × Int) Fnt) : Bool :=
  match r with
  | .error (l, e) => n == 0 && (l == 1 && e == 22)
  | .ok f => n != 0 && (List.range n).all (fun i => if k = 5 then (match f.lookups[i]? with | some l => (l.rules.length == 1) == (i == n - 1) | none => false)
      else (match f.glyphs[i]? with | some g => decide (gSum g ≤ 100) && (((gSum g == 1) == (i == n - 1)) && (if k = 1 && gSum g == 1 then (match g.parts with | [p] => p.glyph == (n : Int) | _ => false) else true)) | none => false))
theorem need_all : ∀ k : Fin 6, ∀ n : Fin 6, ∀ m : Fin 4, needOk k.val n.val (parseL (needSrc k.val n.val m.val)) = true := by decide +kernel
def wrongHead (n : Nat) : B := [103, 108, 121, 112, 104, 32, 97, 32, 49, 10, 103, 108, 121, 112, 104, 32, 98, 32, 50, 10, 108, 111, 111, 107, 117, 112, 32, 115, 105, 110, 103, 108, 101, 10] ++ List.replicate n 10
def wrongSrc (k n : Nat) : B := wrongHead n ++ (wrongS.getD k [] ++ [10, 117, 110, 105, 116, 32, 53])
def rightSrc (n : Nat) : B := wrongHead n ++ [114, 117, 108, 101, 32, 47, 32, 97, 32, 47, 32, 62, 32, 98, 10, 117, 110, 105, 116, 32, 53]
theorem wrong_all : ∀ k : Fin 30, ∀ n : Fin 10, errIs (parseL (wrongSrc k.val n.val)) (4 + (n.val : Int)) (wrongE.getD k.val 0) = true := by decide +kernel
def rightOk (r : Except (Int × Int) Fnt) : Bool := match r with | .error _ => false | .ok f => f.unit == 5 && f.glyphs.length == 2
theorem right_all : ∀ n : Fin 10, rightOk (parseL (rightSrc n.val)) = true := by decide +kernel
def shown1 : B := [103, 108, 121, 112, 104, 32, 97, 32, 53, 48, 48, 10, 99, 111, 110, 116, 111, 117, 114, 32, 48, 44, 48, 32, 49, 48, 44, 53, 42, 32, 50, 48, 44, 48, 10, 99, 104, 97, 114, 32, 57, 55, 32, 97, 10]
def shown2 : B := [103, 108, 121, 112, 104, 32, 97]
def shownF : Fnt := ⟨0, [⟨[97], 500, false, [⟨0, 0, true⟩, ⟨10, 5, false⟩, ⟨20, 0, true⟩], [2], [], [], [], []⟩], [⟨97, 0⟩], [], [], [], [], [], []⟩
theorem shown1_ok : parseL shown1 = .ok shownF := okIs_eq (by decide +kernel)
theorem shown2_ok : parseL shown2 = .error (1, 22) := errIs_eq (by decide +kernel)
theorem shown3_ok : opN [106, 117, 109, 112, 122] = 36 := by decide +kernel
end Go.Proofs.YtkijckccfookeaaGreatDoor
/- fleuronlaw08.shown: the document's examples are as they are said. -/
namespace Go.Proofs.YtkijckccfookeaaGreatDoor
open Go.RowKit

/-- the first example's font, as cells -/
theorem shown_fnt {w : World} {fc : List Value} (h : FntR w (Dt w) fc shownF) : ∃ b1 o1 c1 b2 o2 c2 A3 c3 A4 c4 A5 c5 A6 c6 A7 c7 A8 c8 b9 o9 c9, fc = [.int .i64 0, .slice (some ⟨b1, o1, none⟩) 1 c1, .slice (some ⟨b2, o2, none⟩) 1 c2, .slice A3 0 c3, .slice A4 0 c4, .slice A5 0 c5, .slice A6 0 c6, .slice A7 0 c7, .slice A8 0 c8] ∧
    b1 < w.heap.size ∧ b2 < w.heap.size ∧ b9 < w.heap.size ∧ w.cell? ⟨b1, o1 + 1, none⟩ = some (.int .i64 500) ∧ w.cell? ⟨b1, o1 + 3, none⟩ = some (.slice (some ⟨b9, o9, none⟩) 3 c9) ∧
    w.cell? ⟨b9, o9 + 3, none⟩ = some (.int .i64 10) ∧ w.cell? ⟨b9, o9 + 4, none⟩ = some (.int .i64 5) ∧ w.cell? ⟨b9, o9 + 5, none⟩ = some (.bool false) ∧ w.cell? ⟨b2, o2, none⟩ = some (.int .i64 97) ∧ w.cell? ⟨b2, o2 + 1, none⟩ = some (.int .i64 0) := by
  obtain ⟨A1, c1, A2, c2, A3, c3, A4, c4, A5, c5, A6, c6, A7, c7, A8, c8, e, -, h1, h2, -⟩ := h
  obtain ⟨b1, o1, x, A13, c13, A14, c14, A15, c15, A16, c16, A17, c17, A18, c18, rfl, hb1, hx, -, q1, -, q3, -, -, -, -, -, -, hp, -⟩ := h1.glyph (k := 0) (by decide)
  have hx1 : x = ⟨[97], 500, false, [⟨0, 0, true⟩, ⟨10, 5, false⟩, ⟨20, 0, true⟩], [2], [], [], [], []⟩ := by have := hx.out; simp only [shownF, List.getElem?_cons_zero, Option.some.injEq] at this; exact this.symm
  subst hx1
  obtain ⟨b2, o2, y, rfl, hb2, hy, p0, p1, -⟩ := h2.chr (k := 0) (by decide)
  have hy1 : y = ⟨97, 0⟩ := by have := hy.out; simp only [shownF, List.getElem?_cons_zero, Option.some.injEq] at this; exact this.symm
  subst hy1
  obtain ⟨b9, o9, z, rfl, hb9, hz, r0, r1, r2, -⟩ := hp.pt (k := 1) (by decide)
  have hz1 : z = ⟨10, 5, false⟩ := by have := hz.out; simp only [List.getElem?_cons_succ, List.getElem?_cons_zero, Option.some.injEq] at this; exact this.symm
  subst hz1
  simp only [Nat.zero_mul, Nat.add_zero, Nat.one_mul] at q1 q3 p0 p1 r0 r1 r2
  have lt : ∀ b, Dt w b → b < w.heap.size := fun b ⟨cs, t, hk, _⟩ => hk.lt
  exact ⟨b1, o1, c1, b2, o2, c2, A3, c3, A4, c4, A5, c5, A6, c6, A7, c7, A8, c8, b9, o9, c13, e, lt _ hb1, lt _ hb2, lt _ hb9, q1, q3, r0, r1, r2, p0, p1⟩
set_option maxRecDepth 100000 in
set_option maxHeartbeats 4000000 in
theorem shown_ok (w : World) (hTb : PTabs w) (hnT : nT ≤ w.heap.size) : Calls Tryz.prog 22 #[] w fun e w' => e = .returned (.bool true) ∧ Below w.heap.size w w' := by
  have hf1 := parseFont_ok w shown1 (by decide) hTb hnT
  rw [shown1_ok] at hf1
  go_enter Tryz.func22, Tryz.ntmps22
  go_wp2_with fail
  refine hf1.mono ?_
  rintro e w1 ⟨hb1, fc, rfl, hfn⟩
  obtain ⟨b1, o1, c1, b2, o2, c2, A3, c3, A4, c4, A5, c5, A6, c6, A7, c7, A8, c8, b9, o9, c9, rfl, zb1, zb2, zb9, q1, q3, r0, r1, r2, p0, p1⟩ := shown_fnt hfn
  clear hf1 hfn
  have hz1 := hb1.size
  have HTB := Lib.hid hTb
  have HB1 := Lib.hid hb1
  clear hTb hb1
  go_wp2_with fail
  obtain ⟨w2, hw2⟩ : ∃ x, (w1.alloc (.cells #[.int .i64 0, .slice (some ⟨b1, o1, none⟩) 1 c1, .slice (some ⟨b2, o2, none⟩) 1 c2, .slice A3 0 c3, .slice A4 0 c4, .slice A5 0 c5, .slice A6 0 c6, .slice A7 0 c7, .slice A8 0 c8] tFnt)) = x := ⟨_, rfl⟩
  rw [hw2]
  have hb2 : Below w1.heap.size w1 w2 := hw2 ▸ (Below.refl _ _).alloc (Nat.le_refl _) _
  have hk2 : Bk w2 w1.heap.size tFnt #[.int .i64 0, .slice (some ⟨b1, o1, none⟩) 1 c1, .slice (some ⟨b2, o2, none⟩) 1 c2, .slice A3 0 c3, .slice A4 0 c4, .slice A5 0 c5, .slice A6 0 c6, .slice A7 0 c7, .slice A8 0 c8] := hw2 ▸ Bk.new _ _ _
  clear hw2
  have hB2 : Below w.heap.size w w2 := HB1.out.trans (hb2.mono HB1.out.size)
  have hf2 := parseFont_ok w2 shown2 (by decide) (HTB.out.below hB2) (Nat.le_trans hnT hB2.size)
  rw [shown2_ok] at hf2
  refine hf2.mono ?_
  rintro e w3 ⟨hb3, rfl⟩
  have hb13 : Below w1.heap.size w1 w3 := hb2.trans (hb3.mono hb2.size)
  have hk3 := hk2.keep (hb3.block _ hk2.lt)
  have HB3 : Hid (Below w.heap.size w w3) := HB1.out.trans (hb13.mono HB1.out.size)
  have q1' := ((bcell hb13).1 _ _ zb1).trans q1
  have q3' := ((bcell hb13).1 _ _ zb1).trans q3
  have r0' := ((bcell hb13).1 _ _ zb9).trans r0
  have r1' := ((bcell hb13).1 _ _ zb9).trans r1
  have r2' := ((bcell hb13).1 _ _ zb9).trans r2
  have p0' := ((bcell hb13).1 _ _ zb2).trans p0
  have p1' := ((bcell hb13).1 _ _ zb2).trans p1
  have f1 := hk3.cell 1
  have f2 := hk3.cell 2
  simp only [List.getElem?_toArray, List.getElem?_cons_succ, List.getElem?_cons_zero] at f1 f2
  have zf := hk3.lt
  have hz3 := hb13.size
  have yb1 := Nat.lt_of_lt_of_le zb1 hz3
  have yb2 := Nat.lt_of_lt_of_le zb2 hz3
  have yb9 := Nat.lt_of_lt_of_le zb9 hz3
  have hpo := parseOp_ok (w3.alloc (.cells zeroF tFnt)) [106, 117, 109, 112, 122] ((HTB.out.below HB3.out).ops.keep (by
    have := (HTB.out.below HB3.out).ops.lt
    rw [heap_alloc_old w3 _ this]))
  rw [shown3_ok] at hpo
  have Hpo := Lib.hid hpo
  clear hb13 hb3 hb2 hB2 hk2 hk3 hf2 q1 q3 r0 r1 r2 p0 p1 hpo
  go_wp2_with fail
  refine Hpo.out.mono ?_
  rintro e w4 ⟨rfl, rfl⟩
  go_wp2_with fail
  go_ret
  exact ⟨rfl, HB3.out.trans ((Below.refl _ _).alloc HB3.out.size _)⟩
end Go.Proofs.YtkijckccfookeaaGreatDoor
/- Plain Lean: lines that are read one after the other: a right font's things. -/
namespace Go.Proofs.YtkijckccfookeaaGreatDoor
open Go.RowKit

/-- lines of words, read from one state to another -/
def Runs (gl : Gl) (s : PS) (L : List (List B)) (s' : PS) : Prop := okL L ∧ ∀ n, stmts gl s (enumL n L) = .ok s'
theorem Runs.nil (gl : Gl) (s : PS) : Runs gl s [] s := ⟨fun l hl => by simp at hl, fun _ => rfl⟩
theorem Runs.cons {gl : Gl} {s s' s'' : PS} {l : List B} {L : List (List B)} (hl : l ≠ [] ∧ ∀ w ∈ l, tokB w = true) (h : stmt gl s l = .ok s') (k : Runs gl s' L s'') : Runs gl s (l :: L) s'' := by
  refine ⟨fun x hx => ?_, fun n => ?_⟩
  · rw [List.mem_cons] at hx
    rcases hx with rfl | hx
    · exact hl
    · exact k.1 x hx
  · rw [enumL, stmts, h]
    exact k.2 _
theorem Runs.app {gl : Gl} {s s' s'' : PS} {a b : List (List B)} (h : Runs gl s a s') (k : Runs gl s' b s'') : Runs gl s (a ++ b) s'' := by
  refine ⟨fun x hx => ?_, fun n => ?_⟩
  · rw [List.mem_append] at hx
    rcases hx with hx | hx
    · exact h.1 x hx
    · exact k.1 x hx
  · rw [enumL_app, stmts_app, h.2 n]
    exact k.2 _
theorem Runs.one {gl : Gl} {s s' : PS} {l : List B} (hl : l ≠ [] ∧ ∀ w ∈ l, tokB w = true) (h : stmt gl s l = .ok s') : Runs gl s [l] s' := .cons hl h (.nil _ _)
theorem Runs.eachF {α : Type} {gl : Gl} (l : List α) (lines : α → List (List B)) (st : List α → PS) (h : ∀ done x rest, l = done ++ x :: rest → Runs gl (st done) (lines x) (st (done ++ [x]))) : Runs gl (st []) (l.flatMap lines) (st l) := by
  suffices key : ∀ rest done, l = done ++ rest → Runs gl (st done) (rest.flatMap lines) (st l) from key l [] rfl
  intro rest
  induction rest with
  | nil => intro done e; simp at e; subst e; exact .nil _ _
  | cons x r ih =>
    intro done e
    rw [List.flatMap_cons]
    exact (h done x r e).app (ih (done ++ [x]) (by simp [e]))
theorem Runs.each {α : Type} {gl : Gl} (l : List α) (line : α → List B) (st : List α → PS) (hl : ∀ x ∈ l, line x ≠ [] ∧ ∀ w ∈ line x, tokB w = true) (h : ∀ done x rest, l = done ++ x :: rest → stmt gl (st done) (line x) = .ok (st (done ++ [x]))) : Runs gl (st []) (l.map line) (st l) := by
  have e : l.map line = l.flatMap (fun x => [line x]) := by
    clear hl h
    induction l with
    | nil => rfl
    | cons x r ih => simp [ih]
  rw [e]
  exact Runs.eachF l _ st fun done x rest hx => .one (hl x (by simp [hx])) (h done x rest hx)
/-- what a source's things are as lines -/
def axL (a : Axis) : List B := [sAxis, a.name, itB a.min', itB a.def', itB a.max']
def rgL (r : Region) : List B := sRegion :: r.tents.flatMap tentW
def fnL (p : List Ins) : List B := sFunc :: p.map insB
def chL (gs : List Glyph) (c : Chr) : List B := [sChar, itB c.rune, gnB gs c.glyph]
def ftL (x : Feature) : List B := sFeature :: x.name :: x.lookups.map itB
def lkL (l : Lookup) : List B := sLookup :: pick kindNames l.kind :: if l.ignore then [sIgnore] else []
def coL (c : List Pt) : List B := sContour :: c.map ptB
def paL (gs : List Glyph) (p : Part) : List B := [sPart, gnB gs p.glyph, itB p.x, itB p.y]
def anL (a : Anchor) : List B := [sAnchor, pick anchorNames a.kind, itB a.cls, itB a.x, itB a.y]
def deL (d : Delta) : List B := [sDelta, itB d.region, itB d.point, itB d.x, itB d.y]
def hiL (h : List Ins) : List B := sHint :: h.map insB
def gyL (g : Glyph) : List B := sGlyph :: g.name :: itB g.advance :: if g.mark then [sMark] else []
theorem tok_all2 {a : B} {l : List B} (ha : tokB a = true) (hl : ∀ w ∈ l, tokB w = true) : a :: l ≠ [] ∧ ∀ w ∈ a :: l, tokB w = true :=
  ⟨by simp, fun w hw => by
    rw [List.mem_cons] at hw
    rcases hw with rfl | hw
    · exact ha
    · exact hl w hw⟩
theorem tok_its (l : List Int) : ∀ w ∈ l.map itB, tokB w = true := fun w hw => by
  rw [List.mem_map] at hw
  obtain ⟨n, -, rfl⟩ := hw
  exact it_tok n
section
variable {gl : Gl} {s : PS}
theorem st_axL {a : Axis} (h : nameB a.name = true ∧ N9 a.min' ∧ N9 a.def' ∧ N9 a.max') : stmt gl s (axL a) = .ok { s with f := { s.f with axes := s.f.axes ++ [a] } } := by
  obtain ⟨h1, h2, h3, h4⟩ := h
  rw [axL, st_axis, rAxis, eName_ok h1, eNum_ok _ h2, eNum_ok _ h3, eNum_ok _ h4, (it_num _ h2).2, (it_num _ h3).2, (it_num _ h4).2]
  rfl
theorem ok_axL {a : Axis} (h : nameB a.name = true) : axL a ≠ [] ∧ ∀ w ∈ axL a, tokB w = true := by
  refine ⟨by simp [axL], fun w hw => ?_⟩
  simp only [axL, List.mem_cons, List.not_mem_nil, or_false] at hw
  rcases hw with rfl | rfl | rfl | rfl | rfl
  · decide
  · exact name_tok h
  all_goals exact it_tok _
theorem tent_flat (l : List Tent) : l.flatMap tentW = (l.flatMap fun t => [t.start, t.peak, t.stop]).map itB := by
  induction l with
  | nil => rfl
  | cons t r ih => simp [tentW, ih]
theorem tents_back (l : List Tent) : tentsOf (l.flatMap fun t => [t.start, t.peak, t.stop]) = l := by
  induction l with
  | nil => rfl
  | cons t r ih => simp [tentsOf, ih]
theorem rtTents_len (l : List Tent) : (l.flatMap fun t => [t.start, t.peak, t.stop]).length = 3 * l.length := by
  induction l with
  | nil => rfl
  | cons t r ih => simp only [List.flatMap_cons, List.length_append, ih, List.length_cons, List.length_nil]; omega
theorem st_rgL {r : Region} (h : ∀ t ∈ r.tents, N9 t.start ∧ N9 t.peak ∧ N9 t.stop) : stmt gl s (rgL r) = .ok { s with f := { s.f with regions := s.f.regions ++ [r] } } := by
  have hn : ∀ n ∈ r.tents.flatMap fun t => [t.start, t.peak, t.stop], N9 n := fun n hn => by
    rw [List.mem_flatMap] at hn
    obtain ⟨t, ht, hn⟩ := hn
    obtain ⟨h1, h2, h3⟩ := h t ht
    simp only [List.mem_cons, List.not_mem_nil, or_false] at hn
    rcases hn with rfl | rfl | rfl <;> assumption
  rw [rgL, st_region, rRegion, tent_flat, List.length_map, rtTents_len, if_neg (by omega), eNums_ok _ hn, numV_map _ hn, tents_back]
  rfl
theorem ok_rgL (r : Region) : rgL r ≠ [] ∧ ∀ w ∈ rgL r, tokB w = true := by
  rw [rgL, tent_flat]
  exact tok_all2 (by decide) (tok_its _)
theorem st_cvL {l : List Int} (h : ∀ n ∈ l, N9 n) : stmt gl s (sCvt :: l.map itB) = .ok { s with f := { s.f with cvt := s.f.cvt ++ l } } := by
  rw [st_cvt, rCvt, eNums_ok _ h, numV_map _ h]
  rfl
theorem st_fnL {p : List Ins} (h : OkC p) : stmt gl s (fnL p) = .ok { s with f := { s.f with funcs := s.f.funcs ++ [p] } } := by
  obtain ⟨h1, h2, h3, -⟩ := rtCode_ok p h 0
  rw [fnL, st_func, rFunc, h3, h1, h2]
  rfl
theorem st_chL {gs : List Glyph} (hg : GlOk gl gs) {c : Chr} (h : N9 c.rune ∧ In gs.length c.glyph) : stmt gl s (chL gs c) = .ok { s with f := { s.f with chars := s.f.chars ++ [c] } } := by
  obtain ⟨h1, h2⟩ := h
  rw [chL, st_char, rChar, eNum_ok _ h1, (eGl_ok hg h2 0).1, (it_num _ h1).2, (eGl_ok hg h2 0).2]
  rfl
theorem ok_chL {gs : List Glyph} (hg : GlOk gl gs) {c : Chr} (h : In gs.length c.glyph) : chL gs c ≠ [] ∧ ∀ w ∈ chL gs c, tokB w = true := by
  refine ⟨by simp [chL], fun w hw => ?_⟩
  simp only [chL, List.mem_cons, List.not_mem_nil, or_false] at hw
  rcases hw with rfl | rfl | rfl
  · decide
  · exact it_tok _
  · exact name_tok (gn_ok hg h).2
theorem st_ftL {x : Feature} (h : nameB x.name = true ∧ ∀ n ∈ x.lookups, N9 n) : stmt gl s (ftL x) = .ok { s with f := { s.f with features := s.f.features ++ [x] } } := by
  obtain ⟨h1, h2⟩ := h
  rw [ftL, st_feature, rFeature, eName_ok h1, eNums_ok _ h2, numV_map _ h2]
  rfl
theorem ok_ftL {x : Feature} (h : nameB x.name = true) : ftL x ≠ [] ∧ ∀ w ∈ ftL x, tokB w = true :=
  tok_all2 (by decide) (tok_all2 (name_tok h) (tok_its _)).2
theorem ok_code {p : List Ins} (h : OkC p) {a : B} (ha : tokB a = true) : a :: p.map insB ≠ [] ∧ ∀ w ∈ a :: p.map insB, tokB w = true :=
  tok_all2 ha (rtCode_ok p h 0).2.2.2
theorem st_lkL {l : Lookup} (h : 1 ≤ l.kind ∧ l.kind ≤ 8) : stmt gl s (lkL l) = .ok { s with f := { s.f with lookups := s.f.lookups ++ [⟨l.kind, l.ignore, []⟩] } } := by
  obtain ⟨h1, -⟩ := rtKind_ok l.kind h.1 h.2
  rw [lkL, st_lookup]
  cases hi : l.ignore <;> simp only [rLookup, if_true, if_false, Bool.false_eq_true, true_or, or_true, h1, List.cons_ne_nil] <;> rw [if_neg (by omega)] <;> rfl
theorem ok_lkL {l : Lookup} (h : 1 ≤ l.kind ∧ l.kind ≤ 8) : lkL l ≠ [] ∧ ∀ w ∈ lkL l, tokB w = true := by
  refine tok_all2 (by decide) (tok_all2 (rtKind_ok l.kind h.1 h.2).2 fun w hw => ?_).2
  split at hw
  · simp only [List.mem_singleton] at hw
    subst hw
    decide
  · simp at hw
end
/-- the last lookup, with some rules -/
def lst (s : PS) (init : List Lookup) (l : Lookup) : PS := { s with f := { s.f with lookups := init ++ [l] } }
theorem onLast_lst (s : PS) (init : List Lookup) (l : Lookup) (h : Lookup → Lookup) : onLastL (lst s init l) h = lst s init (h l) := by
  simp [onLastL, lst]
theorem runs_lookup {gl : Gl} {gs : List Glyph} (hg : GlOk gl gs) (hn : gs.length ≤ 1000) (s : PS) (l : Lookup) (hk : 1 ≤ l.kind ∧ l.kind ≤ 8) (hr : ∀ r ∈ l.rules, OkR gs.length l.kind r) (ws : List (List Int) → List B)
    (hw : ∀ x : List (List Int), (∀ y ∈ x, ∀ n ∈ y, In gs.length n) → SetWs gs (ws x) x ∧ ∀ w ∈ ws x, tokB w = true) :
    Runs gl s (lkL l :: l.rules.map (fun r => sRule :: (ws r.back ++ [47] :: ws r.in' ++ [47] :: ws r.ahead ++ [62] :: outW gs l.kind r))) { s with f := { s.f with lookups := s.f.lookups ++ [l] } } := by
  refine Runs.cons (ok_lkL hk) (st_lkL hk) ?_
  have key := Runs.each (gl := gl) l.rules (fun r => sRule :: (ws r.back ++ [47] :: ws r.in' ++ [47] :: ws r.ahead ++ [62] :: outW gs l.kind r)) (fun d => lst s s.f.lookups ⟨l.kind, l.ignore, d⟩) (fun r hx => ?_) (fun done r rest e => ?_)
  · have e : lst s s.f.lookups ⟨l.kind, l.ignore, l.rules⟩ = { s with f := { s.f with lookups := s.f.lookups ++ [l] } } := rfl
    rw [← e]
    exact key
  · have ho := hr r hx
    obtain ⟨a1, a2⟩ := hw r.back fun y hy => (ho.back y hy).2
    obtain ⟨b1, b2⟩ := hw r.in' fun y hy => (ho.in' y hy).2
    obtain ⟨c1, c2⟩ := hw r.ahead fun y hy => (ho.ahead y hy).2
    refine tok_all2 (by decide) fun w hw => ?_
    simp only [List.cons_append, List.append_assoc, List.mem_append, List.mem_cons] at hw
    rcases hw with hw | rfl | hw | rfl | hw | rfl | hw
    · exact a2 w hw
    · decide
    · exact b2 w hw
    · decide
    · exact c2 w hw
    · decide
    · exact (outW_ok hg _ r ho w hw).2.2
  · have ho := hr r (by simp [e])
    rw [st_rule, rule_core hg hn _ ⟨l.kind, l.ignore, done⟩ (by simp [lst]) hk r ho _ _ _ (hw r.back fun y hy => (ho.back y hy).2).1 (hw r.in' fun y hy => (ho.in' y hy).2).1 (hw r.ahead fun y hy => (ho.ahead y hy).2).1, onLast_lst]
/-- the last glyph -/
def gst (s : PS) (init : List Glyph) (g : Glyph) : PS := { s with f := { s.f with glyphs := init ++ [g] } }
theorem onLast_gst (s : PS) (init : List Glyph) (g : Glyph) (h : Glyph → Glyph) : onLast (gst s init g) h = gst s init (h g) := by
  simp [onLast, gst]
theorem gst_ne (s : PS) (init : List Glyph) (g : Glyph) : (gst s init g).f.glyphs ≠ [] := by simp [gst]
section
variable {gl : Gl} {s : PS} {init : List Glyph} {g : Glyph}
theorem st_paL {gs : List Glyph} (hg : GlOk gl gs) {p : Part} (h : In gs.length p.glyph ∧ N9 p.x ∧ N9 p.y) : stmt gl (gst s init g) (paL gs p) = .ok (gst s init { g with parts := g.parts ++ [p] }) := by
  obtain ⟨h1, h2, h3⟩ := h
  rw [paL, st_part, rPart, if_neg (gst_ne _ _ _)]
  simp only [(eGl_ok hg h1 0).1, (eGl_ok hg h1 0).2, eNum_ok _ h2, eNum_ok _ h3, (it_num _ h2).2, (it_num _ h3).2, onLast_gst]
  rfl
theorem ok_paL {gs : List Glyph} (hg : GlOk gl gs) {p : Part} (h : In gs.length p.glyph) : paL gs p ≠ [] ∧ ∀ w ∈ paL gs p, tokB w = true := by
  refine ⟨by simp [paL], fun w hw => ?_⟩
  simp only [paL, List.mem_cons, List.not_mem_nil, or_false] at hw
  rcases hw with rfl | rfl | rfl | rfl
  · decide
  · exact name_tok (gn_ok hg h).2
  all_goals exact it_tok _
theorem st_anL {a : Anchor} (h : 1 ≤ a.kind ∧ a.kind ≤ 4 ∧ N9 a.cls ∧ N9 a.x ∧ N9 a.y) : stmt gl (gst s init g) (anL a) = .ok (gst s init { g with anchors := g.anchors ++ [a] }) := by
  obtain ⟨h1, h2, h3, h4, h5⟩ := h
  obtain ⟨k1, -⟩ := rtAnch_ok a.kind h1 h2
  have hn : ∀ n ∈ [a.cls, a.x, a.y], N9 n := by simp [h3, h4, h5]
  have he := eNums_ok [a.cls, a.x, a.y] hn 0
  rw [anL, st_anchor, rAnchor, if_neg (gst_ne _ _ _)]
  simp only [List.map_cons, List.map_nil] at he
  simp only [k1, he, (it_num _ h3).2, (it_num _ h4).2, (it_num _ h5).2, onLast_gst]
  rw [if_neg (by omega)]
  rfl
theorem ok_anL {a : Anchor} (h : 1 ≤ a.kind ∧ a.kind ≤ 4) : anL a ≠ [] ∧ ∀ w ∈ anL a, tokB w = true := by
  refine ⟨by simp [anL], fun w hw => ?_⟩
  simp only [anL, List.mem_cons, List.not_mem_nil, or_false] at hw
  rcases hw with rfl | rfl | rfl | rfl | rfl
  · decide
  · exact (rtAnch_ok a.kind h.1 h.2).2
  all_goals exact it_tok _
theorem st_deL {d : Delta} (h : N9 d.region ∧ N9 d.point ∧ N9 d.x ∧ N9 d.y) : stmt gl (gst s init g) (deL d) = .ok (gst s init { g with deltas := g.deltas ++ [d] }) := by
  obtain ⟨h1, h2, h3, h4⟩ := h
  have hn : ∀ n ∈ [d.region, d.point, d.x, d.y], N9 n := by simp [h1, h2, h3, h4]
  have he := eNums_ok [d.region, d.point, d.x, d.y] hn 0
  rw [deL, st_delta, rDelta, if_neg (gst_ne _ _ _)]
  simp only [List.map_cons, List.map_nil] at he
  simp only [he, (it_num _ h1).2, (it_num _ h2).2, (it_num _ h3).2, (it_num _ h4).2, onLast_gst]
  rfl
theorem ok_deL (d : Delta) : deL d ≠ [] ∧ ∀ w ∈ deL d, tokB w = true := by
  refine ⟨by simp [deL], fun w hw => ?_⟩
  simp only [deL, List.mem_cons, List.not_mem_nil, or_false] at hw
  rcases hw with rfl | rfl | rfl | rfl | rfl
  · decide
  all_goals exact it_tok _
theorem st_hiL {h : List Ins} (hk : OkC h) : stmt gl (gst s init g) (hiL h) = .ok (gst s init { g with hint := g.hint ++ h }) := by
  obtain ⟨h1, h2, h3, -⟩ := rtCode_ok h hk 0
  rw [hiL, st_hint, rHint, if_neg (gst_ne _ _ _), h3, h1, h2, onLast_gst]
  rfl
theorem st_coL {c : List Pt} (hc : ∀ p ∈ c, N9 p.x ∧ N9 p.y) (hne : c ≠ []) : stmt gl (gst s init g) (coL c) = .ok (gst s init { g with points := g.points ++ c, ends := g.ends ++ [((g.points.length + c.length : Nat) : Int) - 1] }) := by
  obtain ⟨h1, h2, h3, -⟩ := rtPts_ok c hc 0
  have hb : ¬ (c.map ptB = [] ∨ (c.map ptB).all ptOk = false) := by
    rw [h3]
    simp [hne]
  rw [coL, st_contour, rContour, if_neg (gst_ne _ _ _), if_neg hb, h1, h2, onLast_gst, List.length_map]
  rfl
theorem runs_conts (pts : List Pt) (hp : ∀ p ∈ pts, N9 p.x ∧ N9 p.y) (es : List Int) (fr : Nat) (done : List Int) (hfr : fr ≤ pts.length) (he : endsOk fr es pts.length) (n : B) (a : Int) (m : Bool) :
    Runs gl (gst s init ⟨n, a, m, pts.take fr, done, [], [], [], []⟩) ((contsFrom pts fr es).map coL) (gst s init ⟨n, a, m, pts, done ++ es, [], [], [], []⟩) := by
  induction es generalizing fr done with
  | nil =>
    simp only [endsOk] at he
    subst he
    rw [List.take_length, List.append_nil]
    exact .nil _ _
  | cons e es ih =>
    obtain ⟨h1, h2, h3⟩ := he
    have hmem : ∀ p ∈ (pts.take (e.toNat + 1)).drop fr, N9 p.x ∧ N9 p.y := fun p hq => hp p (List.mem_of_mem_take (List.mem_of_mem_drop hq))
    have hlen : ((pts.take (e.toNat + 1)).drop fr).length = e.toNat + 1 - fr := by
      rw [List.length_drop, List.length_take]
      omega
    have hne : (pts.take (e.toNat + 1)).drop fr ≠ [] := fun h0 => by
      rw [h0] at hlen
      simp only [List.length_nil] at hlen
      omega
    rw [contsFrom, if_neg (by omega), List.map_cons]
    refine .cons (tok_all2 (by decide) (rtPts_ok _ hmem 0).2.2.2) (st_coL hmem hne) ?_
    have e1 : pts.take fr ++ (pts.take (e.toNat + 1)).drop fr = pts.take (e.toNat + 1) := by
      have := List.take_append_drop fr (pts.take (e.toNat + 1))
      rw [List.take_take, Nat.min_eq_left (by omega)] at this
      exact this
    have e2 : (((pts.take fr).length + ((pts.take (e.toNat + 1)).drop fr).length : Nat) : Int) - 1 = e := by
      rw [hlen, List.length_take]
      omega
    have := ih (e.toNat + 1) (done ++ [e]) (by omega) h3
    simp only [e1, e2]
    simpa using this
end
end Go.Proofs.YtkijckccfookeaaGreatDoor
