/- fleuronlaw09.printed. Printed by gen_printed.py. -/
import Derived.Test.YtkijckccfookeaaDoorUnI
namespace Go.Proofs.YtkijckccfookeaaDoor
open Go.RowKit Go.Shelf Go.Sort

def font1 : Fnt := ⟨1000, [⟨[46, 110, 111, 116, 100, 101, 102], 500, false, [], [], [], [], [], []⟩], [], [⟨1, false, [⟨[], [[0]], [], [0], [], 0⟩]⟩], [], [], [], [], []⟩
def font2 : Fnt := ⟨16, [], [], [], [], [], [], [[⟨1, 5⟩, ⟨2, 0⟩]], []⟩
theorem it1000 : itB 1000 = [49, 48, 48, 48] := by simp [itB, Lib.itoa, Lib.decDigits]
theorem it500 : itB 500 = [53, 48, 48] := by simp [itB, Lib.itoa, Lib.decDigits]
theorem it16 : itB 16 = [49, 54] := by simp [itB, Lib.itoa, Lib.decDigits]
theorem it5 : itB 5 = [53] := by simp [itB, Lib.itoa, Lib.decDigits]
theorem font1_b : fontB font1 = [117, 110, 105, 116, 32, 49, 48, 48, 48, 10, 103, 108, 121, 112, 104, 32, 46, 110, 111, 116, 100, 101, 102, 32, 53, 48, 48, 10, 108, 111, 111, 107, 117, 112, 32, 115, 105, 110, 103, 108, 101, 10, 114, 117, 108, 101, 32, 47, 32, 46, 110, 111, 116, 100, 101, 102, 32, 47, 32, 62, 32, 46, 110, 111, 116, 100, 101, 102, 10] := by
  simp [fontB, font1, lineB, moreB, glyphB, contsFrom, lookupB, ruleB, ruleW, setsW, setW, gnB, outW, it1000, it500]
  decide
theorem font2_b : fontB font2 = [117, 110, 105, 116, 32, 49, 54, 10, 102, 117, 110, 99, 32, 112, 117, 115, 104, 58, 53, 32, 112, 111, 112, 10] := by
  simp [fontB, font2, lineB, moreB, funcB, insB, it16, it5]
  decide
/-- some objects more -/
def allocs (w : World) (l : List Obj) : World := l.foldl World.alloc w
theorem allocs_size (l : List Obj) : ∀ w : World, (allocs w l).heap.size = w.heap.size + l.length := by
  induction l with
  | nil => intro w; rfl
  | cons o l ih => intro w; show (allocs (w.alloc o) l).heap.size = _; rw [ih]; simp; omega
theorem allocs_below (l : List Obj) : ∀ w : World, Below w.heap.size w (allocs w l) := by
  induction l with
  | nil => intro w; exact Below.refl _ _
  | cons o l ih => intro w; exact ((Below.refl _ _).alloc (Nat.le_refl _) o).trans ((ih (w.alloc o)).mono (by simp))
theorem allocs_get (w : World) (l : List Obj) (k : Nat) : (allocs w l).heap[w.heap.size + k]? = l[k]? := by
  induction l generalizing w k with
  | nil => simp [allocs]
  | cons o l ih =>
    show (allocs (w.alloc o) l).heap[w.heap.size + k]? = _
    cases k with
    | zero => rw [(allocs_below l (w.alloc o)).block _ (by simp)]; exact heap_alloc_new w o
    | succ k =>
      have := ih (w.alloc o) k
      rw [World.size_alloc] at this
      rw [show w.heap.size + (k + 1) = w.heap.size + 1 + k by omega, this]
      rfl
theorem Sl.lit {α : Type} {R : Rel α} {w : World} {b : Nat} {t : TypeId} {cells : Array Value} {size : Nat} {xs : List α} (hb : Bk w b t cells) (h1 : t ≠ 5) (h2 : t ≠ 96) (hf : Fl R size w (FT w) cells.toList xs) : Sl R size w (FT w) (some ⟨b, 0, none⟩) xs :=
  ⟨cells.toList, hf, fun _ => ⟨b, 0, rfl, ft_bk hb h1 h2, fun j u hu => by rw [Nat.zero_add, hb.cell]; simpa using hu⟩⟩
theorem i64z : I64 0 := I64.small (by decide) (by decide)
set_option maxRecDepth 100000 in
set_option maxHeartbeats 4000000 in
theorem printed_ok (w : World) (hT : Tabs w) (hG : nG ≤ w.heap.size) : Calls Tryd.prog 10 #[] w fun e w' => e = .returned (.bool true) ∧ Below w.heap.size w w' := by
  go_enter Tryd.func10, Tryd.ntmps10
  go_wp2_with fail
  change Calls _ _ _ (allocs w [.cells #[.string ⟨#[46, 110, 111, 116, 100, 101, 102]⟩, .int .i64 500, .bool false, .slice none 0 0, .slice none 0 0, .slice none 0 0, .slice none 0 0, .slice none 0 0, .slice none 0 0] 57, .cells #[.int .i64 0] 3, .cells #[.slice (some ⟨w.heap.size + 1, 0, none⟩) 1 1] 22, .cells #[.int .i64 0] 3, .cells #[.slice none 0 0, .slice (some ⟨w.heap.size + 2, 0, none⟩) 1 1, .slice none 0 0, .slice (some ⟨w.heap.size + 3, 0, none⟩) 1 1, .slice none 0 0, .int .i64 0] 78, .cells #[.int .i64 1, .bool false, .slice (some ⟨w.heap.size + 4, 0, none⟩) 1 1] 60, .cells #[.int .i64 1000, .slice (some ⟨w.heap.size, 0, none⟩) 1 1, .slice none 0 0, .slice (some ⟨w.heap.size + 5, 0, none⟩) 1 1, .slice none 0 0, .slice none 0 0, .slice none 0 0, .slice none 0 0, .slice none 0 0] 32, .cells #[.int .i64 1, .int .i64 5, .int .i64 2, .int .i64 0] 72, .cells #[.slice (some ⟨w.heap.size + 7, 0, none⟩) 2 2] 55, .cells #[.int .i64 16, .slice none 0 0, .slice none 0 0, .slice none 0 0, .slice none 0 0, .slice none 0 0, .slice none 0 0, .slice (some ⟨w.heap.size + 8, 0, none⟩) 1 1, .slice none 0 0] 32]) _
  obtain ⟨W, hW⟩ : ∃ W, allocs w [.cells #[.string ⟨#[46, 110, 111, 116, 100, 101, 102]⟩, .int .i64 500, .bool false, .slice none 0 0, .slice none 0 0, .slice none 0 0, .slice none 0 0, .slice none 0 0, .slice none 0 0] 57, .cells #[.int .i64 0] 3, .cells #[.slice (some ⟨w.heap.size + 1, 0, none⟩) 1 1] 22, .cells #[.int .i64 0] 3, .cells #[.slice none 0 0, .slice (some ⟨w.heap.size + 2, 0, none⟩) 1 1, .slice none 0 0, .slice (some ⟨w.heap.size + 3, 0, none⟩) 1 1, .slice none 0 0, .int .i64 0] 78, .cells #[.int .i64 1, .bool false, .slice (some ⟨w.heap.size + 4, 0, none⟩) 1 1] 60, .cells #[.int .i64 1000, .slice (some ⟨w.heap.size, 0, none⟩) 1 1, .slice none 0 0, .slice (some ⟨w.heap.size + 5, 0, none⟩) 1 1, .slice none 0 0, .slice none 0 0, .slice none 0 0, .slice none 0 0, .slice none 0 0] 32, .cells #[.int .i64 1, .int .i64 5, .int .i64 2, .int .i64 0] 72, .cells #[.slice (some ⟨w.heap.size + 7, 0, none⟩) 2 2] 55, .cells #[.int .i64 16, .slice none 0 0, .slice none 0 0, .slice none 0 0, .slice none 0 0, .slice none 0 0, .slice none 0 0, .slice (some ⟨w.heap.size + 8, 0, none⟩) 1 1, .slice none 0 0] 32] = W := ⟨_, rfl⟩
  rw [hW]
  have hbW : Below w.heap.size w W := by rw [← hW]; exact allocs_below _ _
  have K0 : Bk W (w.heap.size + 0) 57 #[.string ⟨#[46, 110, 111, 116, 100, 101, 102]⟩, .int .i64 500, .bool false, .slice none 0 0, .slice none 0 0, .slice none 0 0, .slice none 0 0, .slice none 0 0, .slice none 0 0] := by rw [← hW]; exact allocs_get w _ 0
  have K1 : Bk W (w.heap.size + 1) 3 #[.int .i64 0] := by rw [← hW]; exact allocs_get w _ 1
  have K2 : Bk W (w.heap.size + 2) 22 #[.slice (some ⟨w.heap.size + 1, 0, none⟩) 1 1] := by rw [← hW]; exact allocs_get w _ 2
  have K3 : Bk W (w.heap.size + 3) 3 #[.int .i64 0] := by rw [← hW]; exact allocs_get w _ 3
  have K4 : Bk W (w.heap.size + 4) 78 #[.slice none 0 0, .slice (some ⟨w.heap.size + 2, 0, none⟩) 1 1, .slice none 0 0, .slice (some ⟨w.heap.size + 3, 0, none⟩) 1 1, .slice none 0 0, .int .i64 0] := by rw [← hW]; exact allocs_get w _ 4
  have K5 : Bk W (w.heap.size + 5) 60 #[.int .i64 1, .bool false, .slice (some ⟨w.heap.size + 4, 0, none⟩) 1 1] := by rw [← hW]; exact allocs_get w _ 5
  have K6 : Bk W (w.heap.size + 6) 32 #[.int .i64 1000, .slice (some ⟨w.heap.size, 0, none⟩) 1 1, .slice none 0 0, .slice (some ⟨w.heap.size + 5, 0, none⟩) 1 1, .slice none 0 0, .slice none 0 0, .slice none 0 0, .slice none 0 0, .slice none 0 0] := by rw [← hW]; exact allocs_get w _ 6
  have K7 : Bk W (w.heap.size + 7) 72 #[.int .i64 1, .int .i64 5, .int .i64 2, .int .i64 0] := by rw [← hW]; exact allocs_get w _ 7
  have K8 : Bk W (w.heap.size + 8) 55 #[.slice (some ⟨w.heap.size + 7, 0, none⟩) 2 2] := by rw [← hW]; exact allocs_get w _ 8
  have K9 : Bk W (w.heap.size + 9) 32 #[.int .i64 16, .slice none 0 0, .slice none 0 0, .slice none 0 0, .slice none 0 0, .slice none 0 0, .slice none 0 0, .slice (some ⟨w.heap.size + 8, 0, none⟩) 1 1, .slice none 0 0] := by rw [← hW]; exact allocs_get w _ 9
  have K0' : Bk W w.heap.size 57 #[.string ⟨#[46, 110, 111, 116, 100, 101, 102]⟩, .int .i64 500, .bool false, .slice none 0 0, .slice none 0 0, .slice none 0 0, .slice none 0 0, .slice none 0 0, .slice none 0 0] := K0
  clear hW
  have z0 := hbW.size
  have hTW := hT.all hbW
  have hGW : nG ≤ W.heap.size := Nat.le_trans hG z0
  have S1 : Sl GlyphR 9 W (FT W) (some ⟨w.heap.size, 0, none⟩) font1.glyphs := Sl.lit K0' (by decide) (by decide) (Fl.one ⟨none, 0, none, 0, none, 0, none, 0, none, 0, none, 0, rfl, I64.small (by decide) (by decide), Sl.nil, Sl.nil, Sl.nil, Sl.nil, Sl.nil, Sl.nil⟩ rfl)
  have Si1 : Sl IntR 1 W (FT W) (some ⟨w.heap.size + 1, 0, none⟩) [0] := Sl.lit K1 (by decide) (by decide) (Fl.one ⟨rfl, i64z⟩ rfl)
  have Si2 : Sl RowR 1 W (FT W) (some ⟨w.heap.size + 2, 0, none⟩) [[0]] := Sl.lit K2 (by decide) (by decide) (Fl.one ⟨_, _, rfl, Si1⟩ rfl)
  have Si3 : Sl IntR 1 W (FT W) (some ⟨w.heap.size + 3, 0, none⟩) [0] := Sl.lit K3 (by decide) (by decide) (Fl.one ⟨rfl, i64z⟩ rfl)
  have Si4 : Sl RuleR 6 W (FT W) (some ⟨w.heap.size + 4, 0, none⟩) [⟨[], [[0]], [], [0], [], 0⟩] := Sl.lit K4 (by decide) (by decide) (Fl.one ⟨none, 0, _, _, none, 0, _, _, none, 0, rfl, i64z, Sl.nil, Si2, Sl.nil, Si3, Sl.nil⟩ rfl)
  have S3 : Sl LookupR 3 W (FT W) (some ⟨w.heap.size + 5, 0, none⟩) font1.lookups := Sl.lit K5 (by decide) (by decide) (Fl.one ⟨_, _, rfl, I64.small (by decide) (by decide), Si4⟩ rfl)
  have hsm1 : ∀ g ∈ font1.glyphs, g.points.length ≤ 1000000000 ∧ g.ends.length ≤ 1000000000 := by decide
  have hf1 := font_ok W font1 (some ⟨w.heap.size, 0, none⟩) none (some ⟨w.heap.size + 5, 0, none⟩) none none none none none 1 0 1 0 0 0 0 0 hTW hGW (I64.small (by decide) (by decide)) S1 Sl.nil S3 Sl.nil Sl.nil Sl.nil Sl.nil Sl.nil hsm1 (by rw [font1_b]; decide)
  rw [font1_b] at hf1
  refine (show Calls _ _ _ _ _ from hf1).mono ?_
  rintro e w1 ⟨rfl, hb1⟩
  have hbw1 := bt hbW hb1
  have hT1 := hT.all hbw1
  have J7 := K7.below hb1
  have J8 := K8.below hb1
  have J9 := K9.below hb1
  have z1 := hb1.size
  have Sj7 : Sl InsR 2 w1 (FT w1) (some ⟨w.heap.size + 7, 0, none⟩) [⟨1, 5⟩, ⟨2, 0⟩] := Sl.lit J7 (by decide) (by decide) ((Fl.one (R := InsR) ⟨rfl, I64.small (by decide) (by decide), I64.small (by decide) (by decide)⟩ rfl).append (Fl.one ⟨rfl, I64.small (by decide) (by decide), i64z⟩ rfl))
  have Sj8 : Sl CodeR 1 w1 (FT w1) (some ⟨w.heap.size + 8, 0, none⟩) font2.funcs := Sl.lit J8 (by decide) (by decide) (Fl.one ⟨_, _, rfl, Sj7⟩ rfl)
  have hf2 := font_ok w1 font2 none none none none none none (some ⟨w.heap.size + 8, 0, none⟩) none 0 0 0 0 0 0 1 0 hT1 (Nat.le_trans hGW z1) (I64.small (by decide) (by decide)) Sl.nil Sl.nil Sl.nil Sl.nil Sl.nil Sl.nil Sj8 Sl.nil (by decide) (by rw [font2_b]; decide)
  rw [font2_b] at hf2
  have Hf2 := Lib.hid hf2
  have j0 : w1.cell? ⟨w.heap.size + 9, 0, none⟩ = some (.int .i64 16) := J9.cell 0
  have j1 : w1.cell? ⟨w.heap.size + 9, 1, none⟩ = some (.slice none 0 0) := J9.cell 1
  have j2 : w1.cell? ⟨w.heap.size + 9, 2, none⟩ = some (.slice none 0 0) := J9.cell 2
  have j3 : w1.cell? ⟨w.heap.size + 9, 3, none⟩ = some (.slice none 0 0) := J9.cell 3
  have j4 : w1.cell? ⟨w.heap.size + 9, 4, none⟩ = some (.slice none 0 0) := J9.cell 4
  have j5 : w1.cell? ⟨w.heap.size + 9, 5, none⟩ = some (.slice none 0 0) := J9.cell 5
  have j6 : w1.cell? ⟨w.heap.size + 9, 6, none⟩ = some (.slice none 0 0) := J9.cell 6
  have j7 : w1.cell? ⟨w.heap.size + 9, 7, none⟩ = some (.slice (some ⟨w.heap.size + 8, 0, none⟩) 1 1) := J9.cell 7
  have j8 : w1.cell? ⟨w.heap.size + 9, 8, none⟩ = some (.slice none 0 0) := J9.cell 8
  have hop39 : opB 39 = [115, 105, 122, 101] := by decide
  have hop0 : opB 0 = [63] := by decide
  have hop40 : opB 40 = [63] := by decide
  clear hf2 hf1 S1 Si1 Si2 Si3 Si4 S3 hsm1 Sj7 Sj8 J7 J8 J9 K0 K0' K1 K2 K3 K4 K5 K6 K7 K8 K9
  have Hop39 : Hid (∀ w, Tabs w → Calls Tryd.prog 13 #[.int .i64 39] w fun e w' => e = .returned (.string ⟨#[115, 105, 122, 101]⟩) ∧ w = w') := fun w h => by have := op_ok w 39 h; rw [hop39] at this; exact this
  have Hop0 : Hid (∀ w, Tabs w → Calls Tryd.prog 13 #[.int .i64 0] w fun e w' => e = .returned (.string ⟨#[63]⟩) ∧ w = w') := fun w h => by have := op_ok w 0 h; rw [hop0] at this; exact this
  have Hop40 : Hid (∀ w, Tabs w → Calls Tryd.prog 13 #[.int .i64 40] w fun e w' => e = .returned (.string ⟨#[63]⟩) ∧ w = w') := fun w h => by have := op_ok w 40 h; rw [hop40] at this; exact this
  clear hop39 hop0 hop40
  go_wp2_with fail
  refine (show Calls _ _ _ _ _ from Hf2.out).mono ?_
  rintro e w2 ⟨rfl, hb2⟩
  have hbw2 := bt hbw1 hb2
  have hT2 := hT.all hbw2
  have tk39 : True := trivial
  have tk0 : True := trivial
  have tk40 : True := trivial
  go_wp2_with (first
    | (go_at_call 13; have _t := tk39; refine (Hop39.out _ hT2).mono ?_; rintro e w' ⟨rfl, rfl⟩; clear _t tk39)
    | (go_at_call 13; have _t := tk0; refine (Hop0.out _ hT2).mono ?_; rintro e w' ⟨rfl, rfl⟩; clear _t tk0)
    | (go_at_call 13; have _t := tk40; refine (Hop40.out _ hT2).mono ?_; rintro e w' ⟨rfl, rfl⟩; clear _t tk40))
  go_ret
  exact ⟨rfl, hbw2⟩
end Go.Proofs.YtkijckccfookeaaDoor
