/- Plain Lean: the sources of ParseNeeds, ParseWrong, and of the examples, parsed. Printed by gen_fin.py. -/
import Derived.Test.YtkijckccfookeaaGreatDoorPParse
import Derived.Test.YtkijckccfookeaaGreatDoorPbP
import Derived.Great.BuildSlice
import Derived.Deep.Cut
import Derived.OpenShut
namespace Go.Proofs.YtkijckccfookeaaGreatDoor
open Go.RowKit

def needS : List B := [[99, 111, 110, 116, 111, 117, 114, 32, 49, 44, 50, 32, 51, 44, 52], [112, 97, 114, 116, 32, 122, 32, 53, 32, 54], [97, 110, 99, 104, 111, 114, 32, 98, 97, 115, 101, 32, 48, 32, 49, 32, 50], [100, 101, 108, 116, 97, 32, 48, 32, 48, 32, 49, 32, 49], [104, 105, 110, 116, 32, 112, 111, 112], [114, 117, 108, 101, 32, 47, 32, 122, 32, 47, 32, 62]]
def wrongS : List B := [[117, 110, 105, 116, 115, 32, 53], [117, 110, 105, 116], [117, 110, 105, 116, 32, 120], [97, 120, 105, 115, 32, 97, 32, 49, 32, 50], [97, 120, 105, 115, 32, 49, 32, 49, 32, 50, 32, 51], [114, 101, 103, 105, 111, 110, 32, 49, 32, 50], [99, 118, 116, 32, 97], [102, 117, 110, 99, 32, 112, 117, 115, 104, 58, 49, 58, 50], [102, 117, 110, 99, 32, 110, 111, 112], [102, 117, 110, 99, 32, 112, 117, 115, 104, 58], [99, 108, 97, 115, 115, 32, 99], [99, 108, 97, 115, 115, 32, 99, 32, 97, 32, 98], [99, 108, 97, 115, 115, 32, 49, 32, 97], [103, 108, 121, 112, 104, 32, 98], [103, 108, 121, 112, 104, 32, 99, 32, 120], [103, 108, 121, 112, 104, 32, 97, 32, 53], [103, 108, 121, 112, 104, 32, 99, 32, 53, 32, 109, 97, 114, 107, 115], [99, 111, 110, 116, 111, 117, 114], [99, 111, 110, 116, 111, 117, 114, 32, 49], [99, 111, 110, 116, 111, 117, 114, 32, 49, 44, 50, 44, 51], [99, 111, 110, 116, 111, 117, 114, 32, 49, 44, 120], [112, 97, 114, 116, 32, 99, 32, 49, 32, 50], [97, 110, 99, 104, 111, 114, 32, 116, 111, 112, 32, 48, 32, 49, 32, 50], [100, 101, 108, 116, 97, 32, 49, 32, 50, 32, 51], [99, 104, 97, 114, 32, 97, 32, 97], [108, 111, 111, 107, 117, 112, 32, 115, 105, 109, 112, 108, 101], [114, 117, 108, 101, 32, 97, 32, 47, 32, 98, 32, 62], [114, 117, 108, 101, 32, 47, 32, 91, 32, 97, 32, 47, 32, 62, 32, 98], [114, 117, 108, 101, 32, 47, 32, 97, 32, 47, 32, 62, 32, 99], [102, 101, 97, 116, 117, 114, 101, 32, 102, 32, 120]]
def wrongE : List Int := [22, 22, 21, 22, 23, 22, 21, 22, 23, 21, 22, 22, 23, 22, 21, 24, 22, 22, 22, 22, 21, 23, 22, 22, 21, 22, 22, 22, 23, 21]
def needHead (k i : Nat) : B := if k = 5 then [108, 111, 111, 107, 117, 112, 32, 108, 105, 103, 97, 116, 117, 114, 101, 10] else [103, 108, 121, 112, 104, 32] ++ ((97 + i).toUInt8 :: [32, 48, 10])
def needSrc (k n m : Nat) : B := (List.range n).flatMap (needHead k) ++ (needS.getD k [] ++ ([10] ++ ((List.range m).flatMap (fun _ => [108, 111, 111, 107, 117, 112, 32, 99, 104, 97, 105, 110, 10]) ++ [103, 108, 121, 112, 104, 32, 122, 32, 57, 10])))
/-- an answer, as a test -/
def errIs (r : Except (Int × Int) Fnt) (n e : Int) : Bool := match r with | .error (a, b) => a == n && b == e | .ok _ => false
theorem errIs_eq {r : Except (Int × Int) Fnt} {n e : Int} (h : errIs r n e = true) : r = .error (n, e) := by
  unfold errIs at h
  split at h
  · simp only [Bool.and_eq_true, beq_iff_eq] at h
    rw [h.1, h.2]
  · cases h
def okIs (r : Except (Int × Int) Fnt) (f : Fnt) : Bool := match r with | .error _ => false | .ok g => decide (g = f)
theorem okIs_eq {r : Except (Int × Int) Fnt} {f : Fnt} (h : okIs r f = true) : r = .ok f := by
  unfold okIs at h
  split at h
  · cases h
  · rw [of_decide_eq_true h]
/-- what ParseNeeds looks at -/
def gSum (g : Glyph) : Nat := g.ends.length + g.parts.length + g.anchors.length + g.deltas.length + g.hint.length
def needOk (k n : Nat) (r : Except (Int × Int) Fnt) : Bool :=
  match r with
  | .error (l, e) => n == 0 && (l == 1 && e == 22)
  | .ok f => n != 0 && (List.range n).all (fun i => if k = 5 then (match f.lookups[i]? with | some l => (l.rules.length == 1) == (i == n - 1) | none => false)
      else (match f.glyphs[i]? with | some g => decide (gSum g ≤ 100) && (((gSum g == 1) == (i == n - 1)) && (if k = 1 && gSum g == 1 then (match g.parts with | [p] => p.glyph == (n : Int) | _ => false) else true)) | none => false))
theorem need_all : ∀ k : Fin 6, ∀ n : Fin 6, ∀ m : Fin 4, needOk k.val n.val (parseL (needSrc k.val n.val m.val)) = true := by decide +kernel
def wrongHead (n : Nat) : B := [103, 108, 121, 112, 104, 32, 97, 32, 49, 10, 103, 108, 121, 112, 104, 32, 98, 32, 50, 10, 108, 111, 111, 107, 117, 112, 32, 115, 105, 110, 103, 108, 101, 10] ++ List.replicate n 10
def wrongSrc (k n : Nat) : B := wrongHead n ++ (wrongS.getD k [] ++ [10, 117, 110, 105, 116, 32, 53])
def rightSrc (n : Nat) : B := wrongHead n ++ [114, 117, 108, 101, 32, 47, 32, 97, 32, 47, 32, 62, 32, 98, 10, 117, 110, 105, 116, 32, 53]
theorem wrong_all : ∀ k : Fin 30, ∀ n : Fin 10, errIs (parseL (wrongSrc k.val n.val)) (4 + (n.val : Int)) (wrongE.getD k.val 0) = true := by decide +kernel
def rightOk (r : Except (Int × Int) Fnt) : Bool := match r with | .error _ => false | .ok f => f.unit == 5 && f.glyphs.length == 2
theorem right_all : ∀ n : Fin 10, rightOk (parseL (rightSrc n.val)) = true := by decide +kernel
def shown1 : B := [103, 108, 121, 112, 104, 32, 97, 32, 53, 48, 48, 10, 99, 111, 110, 116, 111, 117, 114, 32, 48, 44, 48, 32, 49, 48, 44, 53, 42, 32, 50, 48, 44, 48, 10, 99, 104, 97, 114, 32, 57, 55, 32, 97, 10]
def shown2 : B := [103, 108, 121, 112, 104, 32, 97]
def shownF : Fnt := ⟨0, [⟨[97], 500, false, [⟨0, 0, true⟩, ⟨10, 5, false⟩, ⟨20, 0, true⟩], [2], [], [], [], []⟩], [⟨97, 0⟩], [], [], [], [], [], []⟩
theorem shown1_ok : parseL shown1 = .ok shownF := okIs_eq (by decide +kernel)
theorem shown2_ok : parseL shown2 = .error (1, 22) := errIs_eq (by decide +kernel)
theorem shown3_ok : opN [106, 117, 109, 112, 122] = 36 := by decide +kernel
end Go.Proofs.YtkijckccfookeaaGreatDoor
/- fleuronlaw08.shown: the document's examples are as they are said. -/
namespace Go.Proofs.YtkijckccfookeaaGreatDoor
open Go.RowKit

/-- the first example's font, as cells -/
theorem shown_fnt {w : World} {fc : List Value} (h : FntR w (Dt w) fc shownF) : ∃ b1 o1 c1 b2 o2 c2 A3 c3 A4 c4 A5 c5 A6 c6 A7 c7 A8 c8 b9 o9 c9, fc = [.int .i64 0, .slice (some ⟨b1, o1, none⟩) 1 c1, .slice (some ⟨b2, o2, none⟩) 1 c2, .slice A3 0 c3, .slice A4 0 c4, .slice A5 0 c5, .slice A6 0 c6, .slice A7 0 c7, .slice A8 0 c8] ∧
    b1 < w.heap.size ∧ b2 < w.heap.size ∧ b9 < w.heap.size ∧ w.cell? ⟨b1, o1 + 1, none⟩ = some (.int .i64 500) ∧ w.cell? ⟨b1, o1 + 3, none⟩ = some (.slice (some ⟨b9, o9, none⟩) 3 c9) ∧
    w.cell? ⟨b9, o9 + 3, none⟩ = some (.int .i64 10) ∧ w.cell? ⟨b9, o9 + 4, none⟩ = some (.int .i64 5) ∧ w.cell? ⟨b9, o9 + 5, none⟩ = some (.bool false) ∧ w.cell? ⟨b2, o2, none⟩ = some (.int .i64 97) ∧ w.cell? ⟨b2, o2 + 1, none⟩ = some (.int .i64 0) := by
  obtain ⟨A1, c1, A2, c2, A3, c3, A4, c4, A5, c5, A6, c6, A7, c7, A8, c8, e, -, h1, h2, -⟩ := h
  obtain ⟨b1, o1, x, A13, c13, A14, c14, A15, c15, A16, c16, A17, c17, A18, c18, rfl, hb1, hx, -, q1, -, q3, -, -, -, -, -, -, hp, -⟩ := h1.glyph (k := 0) (by decide)
  have hx1 : x = ⟨[97], 500, false, [⟨0, 0, true⟩, ⟨10, 5, false⟩, ⟨20, 0, true⟩], [2], [], [], [], []⟩ := by have := hx.out; simp only [shownF, List.getElem?_cons_zero, Option.some.injEq] at this; exact this.symm
  subst hx1
  obtain ⟨b2, o2, y, rfl, hb2, hy, p0, p1, -⟩ := h2.chr (k := 0) (by decide)
  have hy1 : y = ⟨97, 0⟩ := by have := hy.out; simp only [shownF, List.getElem?_cons_zero, Option.some.injEq] at this; exact this.symm
  subst hy1
  obtain ⟨b9, o9, z, rfl, hb9, hz, r0, r1, r2, -⟩ := hp.pt (k := 1) (by decide)
  have hz1 : z = ⟨10, 5, false⟩ := by have := hz.out; simp only [List.getElem?_cons_succ, List.getElem?_cons_zero, Option.some.injEq] at this; exact this.symm
  subst hz1
  simp only [Nat.zero_mul, Nat.add_zero, Nat.one_mul] at q1 q3 p0 p1 r0 r1 r2
  have lt : ∀ b, Dt w b → b < w.heap.size := fun b ⟨cs, t, hk, _⟩ => hk.lt
  exact ⟨b1, o1, c1, b2, o2, c2, A3, c3, A4, c4, A5, c5, A6, c6, A7, c7, A8, c8, b9, o9, c13, e, lt _ hb1, lt _ hb2, lt _ hb9, q1, q3, r0, r1, r2, p0, p1⟩
set_option maxRecDepth 100000 in
set_option maxHeartbeats 4000000 in
theorem shown_ok (w : World) (hTb : PTabs w) (hnT : nT ≤ w.heap.size) : Calls Tryz.prog 22 #[] w fun e w' => e = .returned (.bool true) ∧ Below w.heap.size w w' := by
  have hf1 := parseFont_ok w shown1 (by decide) hTb hnT
  rw [shown1_ok] at hf1
  go_enter Tryz.func22, Tryz.ntmps22
  go_wp2_with fail
  refine hf1.mono ?_
  rintro e w1 ⟨hb1, fc, rfl, hfn⟩
  obtain ⟨b1, o1, c1, b2, o2, c2, A3, c3, A4, c4, A5, c5, A6, c6, A7, c7, A8, c8, b9, o9, c9, rfl, zb1, zb2, zb9, q1, q3, r0, r1, r2, p0, p1⟩ := shown_fnt hfn
  clear hf1 hfn
  have hz1 := hb1.size
  have HTB := Lib.hid hTb
  have HB1 := Lib.hid hb1
  clear hTb hb1
  go_wp2_with fail
  obtain ⟨w2, hw2⟩ : ∃ x, (w1.alloc (.cells #[.int .i64 0, .slice (some ⟨b1, o1, none⟩) 1 c1, .slice (some ⟨b2, o2, none⟩) 1 c2, .slice A3 0 c3, .slice A4 0 c4, .slice A5 0 c5, .slice A6 0 c6, .slice A7 0 c7, .slice A8 0 c8] tFnt)) = x := ⟨_, rfl⟩
  rw [hw2]
  have hb2 : Below w1.heap.size w1 w2 := hw2 ▸ (Below.refl _ _).alloc (Nat.le_refl _) _
  have hk2 : Bk w2 w1.heap.size tFnt #[.int .i64 0, .slice (some ⟨b1, o1, none⟩) 1 c1, .slice (some ⟨b2, o2, none⟩) 1 c2, .slice A3 0 c3, .slice A4 0 c4, .slice A5 0 c5, .slice A6 0 c6, .slice A7 0 c7, .slice A8 0 c8] := hw2 ▸ Bk.new _ _ _
  clear hw2
  have hB2 : Below w.heap.size w w2 := HB1.out.trans (hb2.mono HB1.out.size)
  have hf2 := parseFont_ok w2 shown2 (by decide) (HTB.out.below hB2) (Nat.le_trans hnT hB2.size)
  rw [shown2_ok] at hf2
  refine hf2.mono ?_
  rintro e w3 ⟨hb3, rfl⟩
  have hb13 : Below w1.heap.size w1 w3 := hb2.trans (hb3.mono hb2.size)
  have hk3 := hk2.keep (hb3.block _ hk2.lt)
  have HB3 : Hid (Below w.heap.size w w3) := HB1.out.trans (hb13.mono HB1.out.size)
  have q1' := ((bcell hb13).1 _ _ zb1).trans q1
  have q3' := ((bcell hb13).1 _ _ zb1).trans q3
  have r0' := ((bcell hb13).1 _ _ zb9).trans r0
  have r1' := ((bcell hb13).1 _ _ zb9).trans r1
  have r2' := ((bcell hb13).1 _ _ zb9).trans r2
  have p0' := ((bcell hb13).1 _ _ zb2).trans p0
  have p1' := ((bcell hb13).1 _ _ zb2).trans p1
  have f1 := hk3.cell 1
  have f2 := hk3.cell 2
  simp only [List.getElem?_toArray, List.getElem?_cons_succ, List.getElem?_cons_zero] at f1 f2
  have zf := hk3.lt
  have hz3 := hb13.size
  have yb1 := Nat.lt_of_lt_of_le zb1 hz3
  have yb2 := Nat.lt_of_lt_of_le zb2 hz3
  have yb9 := Nat.lt_of_lt_of_le zb9 hz3
  have hpo := parseOp_ok (w3.alloc (.cells zeroF tFnt)) [106, 117, 109, 112, 122] ((HTB.out.below HB3.out).ops.keep (by
    have := (HTB.out.below HB3.out).ops.lt
    rw [heap_alloc_old w3 _ this]))
  rw [shown3_ok] at hpo
  have Hpo := Lib.hid hpo
  clear hb13 hb3 hb2 hB2 hk2 hk3 hf2 q1 q3 r0 r1 r2 p0 p1 hpo
  go_wp2_with fail
  refine Hpo.out.mono ?_
  rintro e w4 ⟨rfl, rfl⟩
  go_wp2_with fail
  go_ret
  exact ⟨rfl, HB3.out.trans ((Below.refl _ _).alloc HB3.out.size _)⟩
end Go.Proofs.YtkijckccfookeaaGreatDoor
/- fleuronlaw08.ParseWrong returns true. -/
namespace Go.Proofs.YtkijckccfookeaaGreatDoor
open Go.RowKit

theorem app_listW (a b : B) : (ByteArray.mk a.toArray) ++ ⟨b.toArray⟩ = ⟨(a ++ b).toArray⟩ := by
  apply ByteArray.ext
  rw [ByteArray.data_append]
  apply Array.ext'
  simp
theorem wrongHead_snoc (j : Nat) : wrongHead j ++ [10] = wrongHead (j + 1) := by
  unfold wrongHead
  rw [List.append_assoc, List.replicate_succ']
theorem wrongHead_len (j : Nat) : (wrongHead j).length = 34 + j := by
  unfold wrongHead
  rw [List.length_append, List.length_replicate]
  rfl
theorem tmod_natW (a m : Nat) : ((a : Int)).tmod (m : Int) = ((a % m : Nat) : Int) := by
  rw [Int.tmod_eq_emod_of_nonneg (by omega)]
  simp
theorem wrong_atF : ∀ k : Fin 30, ∃ s e, wrongS[k.val]? = some s ∧ wrongS.getD k.val [] = s ∧ s.length ≤ 20 ∧ wrongE[k.val]? = some e ∧ wrongE.getD k.val 0 = e := fun k => by
  have h1 : k.val < wrongS.length := k.isLt
  have h2 : k.val < wrongE.length := k.isLt
  refine ⟨wrongS[k.val], wrongE[k.val], List.getElem?_eq_getElem h1, by rw [List.getD_eq_getElem?_getD, List.getElem?_eq_getElem h1]; rfl, ?_, List.getElem?_eq_getElem h2, by rw [List.getD_eq_getElem?_getD, List.getElem?_eq_getElem h2]; rfl⟩
  have : ∀ s ∈ wrongS, s.length ≤ 20 := by decide
  exact this _ (List.getElem_mem _)
theorem wrong_at (k : Nat) (h : k < 30) : ∃ s e, wrongS[k]? = some s ∧ wrongS.getD k [] = s ∧ s.length ≤ 20 ∧ wrongE[k]? = some e ∧ wrongE.getD k 0 = e := wrong_atF ⟨k, h⟩
def wrongC : Array Value := (strs wrongS).toArray
def wrongD : Array Value := (cIs wrongE).toArray
attribute [local irreducible] wrongC wrongD
set_option maxRecDepth 100000 in
set_option maxHeartbeats 8000000 in
theorem parseWrong_ok (w : World) (a b : Nat) (ha : a < 256) (hb : b < 256) (hTb : PTabs w) (hnT : nT ≤ w.heap.size) : Calls Tryz.prog 11 #[.int .u8 a, .int .u8 b] w fun e w' => e = .returned (.bool true) ∧ Below w.heap.size w w' := by
  have hk1 : ((a : Int)).tmod 30 = ((a % 30 : Nat) : Int) := tmod_natW a 30
  have hn1 : ((b : Int)).tmod 10 = ((b % 10 : Nat) : Int) := tmod_natW b 10
  have hk2 : ((a : Int)) % 30 = ((a % 30 : Nat) : Int) := by omega
  have hn2 : ((b : Int)) % 10 = ((b % 10 : Nat) : Int) := by omega
  have hkl : a % 30 < 30 := Nat.mod_lt _ (by omega)
  have hnl : b % 10 < 10 := Nat.mod_lt _ (by omega)
  go_enter Tryz.func11, Tryz.ntmps11
  go_wp2_with fail
  refine (shown_ok w hTb hnT).mono ?_
  rintro e w1 ⟨rfl, hb1⟩
  have HB1 := Lib.hid hb1
  have HTB := Lib.hid (hTb.below hb1)
  have hz1 := hb1.size
  clear hb1 hTb
  generalize hk : a % 30 = k at *
  generalize hn : b % 10 = n at *
  go_upto_region 2 with fail
  apply wp_region_lit
  refine wpList_buildTo rfl 82 _ rfl (some 18) rfl wrongC (by as_aux_lemma => kernel_rfl) ?_
  go_upto_region 3 with (refine wpList_store_rowTo rfl 82 (.tmp 6) (.tmp 18) rfl rfl w1.heap.size wrongC rfl rfl 82 _ (heap_alloc_new w1 _) (by as_aux_lemma => kernel_rfl) (by as_aux_lemma => kernel_rfl) (by as_aux_lemma => kernel_rfl) ?_)
  obtain ⟨WA, hWA, hkA, hbA⟩ : ∃ WA, (w1.alloc _).setRow w1.heap.size wrongC = WA ∧ Bk WA w1.heap.size 82 wrongC ∧ Below w1.heap.size w1 WA := ⟨_, rfl, setRow_heap _ _ _ _ _ _ (heap_alloc_new w1 _), below_setRow ((Below.refl _ _).alloc (Nat.le_refl _) _) (Nat.le_refl _) _⟩
  rw [hWA]
  have HKA := Lib.hid hkA
  have HBA := Lib.hid hbA
  have zA := hkA.lt
  clear hWA hkA hbA
  apply wp_region_lit
  refine wpList_buildTo rfl 83 _ rfl (some 19) rfl wrongD (by as_aux_lemma => kernel_rfl) ?_
  go_upto_region 4 with (refine wpList_store_rowTo rfl 83 (.tmp 7) (.tmp 19) rfl rfl WA.heap.size wrongD rfl rfl 83 _ (heap_alloc_new WA _) (by as_aux_lemma => kernel_rfl) (by as_aux_lemma => kernel_rfl) (by as_aux_lemma => kernel_rfl) ?_)
  obtain ⟨WB, hWB, hkB, hbB⟩ : ∃ WB, (WA.alloc _).setRow WA.heap.size wrongD = WB ∧ Bk WB WA.heap.size 83 wrongD ∧ Below WA.heap.size WA WB := ⟨_, rfl, setRow_heap _ _ _ _ _ _ (heap_alloc_new WA _), below_setRow ((Below.refl _ _).alloc (Nat.le_refl _) _) (Nat.le_refl _) _⟩
  rw [hWB]
  have HKB := Lib.hid hkB
  have HBB := Lib.hid hbB
  have zB := hkB.lt
  clear hWB hkB hbB
  have HKA2 : Hid (Bk WB w1.heap.size 82 wrongC) := Lib.hid (HKA.out.keep (HBB.out.block _ zA))
  have HB2 : Hid (Below w.heap.size w WB) := Lib.hid (HB1.out.trans ((HBA.out.trans (HBB.out.mono HBA.out.size)).mono hz1))
  have HTB2 : Hid (PTabs WB) := Lib.hid (HTB.out.below (HBA.out.trans (HBB.out.mono HBA.out.size)))
  have hz2 : w.heap.size ≤ WB.heap.size := HB2.out.size
  have zA2 : w1.heap.size < WB.heap.size := HKA2.out.lt
  clear HKA HBA HBB HTB HB1
  go_wp2_with fail
  go_loopw [9, 10] (fun s i wr => ∃ j : Nat, j ≤ n ∧ i = .int .i64 j ∧ s = .string ⟨(wrongHead j).toArray⟩ ∧ WB = wr) (fun _ i _ => n - (intOf i).toNat)
  case atStart => exact ⟨0, Nat.zero_le _, rfl, rfl, rfl⟩
  case round =>
    obtain ⟨j, hj, rfl, rfl, rfl⟩ := hrel
    by_cases hlt : j < n
    · have hlen := wrongHead_len j
      have hsn := Lib.hid (wrongHead_snoc j)
      generalize wrongHead j = S at *
      have hap : (ByteArray.mk S.toArray) ++ ⟨#[10]⟩ = ⟨(S ++ [10]).toArray⟩ := app_listW S [10]
      rw [hsn.out] at hap
      clear hsn
      go_wp2_with fail
      go_roundw
      case rel => exact ⟨j + 1, by omega, by simp, rfl, by simp⟩
      case measure => simp [intOf]; omega
    · obtain rfl : j = n := by omega
      have hlen := wrongHead_len j
      obtain ⟨sk, ek, hs1, hs2, hs3, he1, he2⟩ := wrong_at k hkl
      have hcs : WB.cell? ⟨w1.heap.size, k, none⟩ = some (.string ⟨sk.toArray⟩) := by
        rw [HKA2.out.cell k]
        unfold wrongC
        rw [← Array.getElem?_toList]
        exact strs_get hs1
      have hce : WB.cell? ⟨WA.heap.size, k, none⟩ = some (.int .i64 ek) := by
        rw [HKB.out.cell k]
        unfold wrongD
        rw [← Array.getElem?_toList]
        exact cIs_get _ _ _ he1
      have hw1 := errIs_eq (wrong_all ⟨k, hkl⟩ ⟨j, hnl⟩)
      have hr1 := right_all ⟨j, hnl⟩
      simp only at hw1 hr1
      rw [he2] at hw1
      have hsrc : wrongSrc k j = wrongHead j ++ (sk ++ [10, 117, 110, 105, 116, 32, 53]) := by rw [wrongSrc, hs2]
      have hsr2 : rightSrc j = wrongHead j ++ [114, 117, 108, 101, 32, 47, 32, 97, 32, 47, 32, 62, 32, 98, 10, 117, 110, 105, 116, 32, 53] := rfl
      rw [hsrc] at hw1
      rw [hsr2] at hr1
      clear hs1 hs2 he1 he2 hsrc hsr2
      generalize wrongHead j = S at *
      have hf1 := parseFont_ok WB (S ++ (sk ++ [10, 117, 110, 105, 116, 32, 53])) (by simp only [List.length_append, List.length_cons, List.length_nil]; omega) HTB2.out (Nat.le_trans hnT hz2)
      rw [hw1] at hf1
      have HF1 := Lib.hid hf1
      have HR1 := Lib.hid hr1
      clear hf1 hw1 hr1
      have hap : (ByteArray.mk S.toArray) ++ ⟨sk.toArray⟩ = ⟨(S ++ sk).toArray⟩ := app_listW S sk
      have hap1 : (ByteArray.mk (S ++ sk).toArray) ++ ⟨#[10, 117, 110, 105, 116, 32, 53]⟩ = ⟨(S ++ (sk ++ [10, 117, 110, 105, 116, 32, 53])).toArray⟩ := by rw [← List.append_assoc]; exact app_listW (S ++ sk) [10, 117, 110, 105, 116, 32, 53]
      have hap2 : (ByteArray.mk S.toArray) ++ ⟨#[114, 117, 108, 101, 32, 47, 32, 97, 32, 47, 32, 62, 32, 98, 10, 117, 110, 105, 116, 32, 53]⟩ = ⟨(S ++ [114, 117, 108, 101, 32, 47, 32, 97, 32, 47, 32, 62, 32, 98, 10, 117, 110, 105, 116, 32, 53]).toArray⟩ := app_listW S [114, 117, 108, 101, 32, 47, 32, 97, 32, 47, 32, 62, 32, 98, 10, 117, 110, 105, 116, 32, 53]
      have hl1 : (S ++ sk).length ≤ 200 := by rw [List.length_append]; omega
      generalize hS1 : S ++ sk = S1 at *
      generalize hS2 : S ++ (sk ++ [10, 117, 110, 105, 116, 32, 53]) = S2 at *
      have hl2 : S2.length ≤ 300 := by rw [← hS2]; simp only [List.length_append, List.length_cons, List.length_nil]; omega
      have hl3 : (S ++ [114, 117, 108, 101, 32, 47, 32, 97, 32, 47, 32, 62, 32, 98, 10, 117, 110, 105, 116, 32, 53]).length ≤ 300 := by simp only [List.length_append, List.length_cons, List.length_nil]; omega
      generalize hS3 : S ++ [114, 117, 108, 101, 32, 47, 32, 97, 32, 47, 32, 62, 32, 98, 10, 117, 110, 105, 116, 32, 53] = S3 at *
      clear hS1 hS2 hS3
      go_wp2_with fail
      refine HF1.out.mono ?_
      rintro e w3 ⟨hb3, rfl⟩
      have hz3 := hb3.size
      have HB3 := Lib.hid hb3
      clear hb3 hap hap1 HF1
      go_wp2_with fail
      have hb3 := HB3.out
      have hb4 : Below WB.heap.size WB (w3.alloc (.cells zeroF tFnt)) := hb3.alloc hz3 _
      have hk4 : Bk (w3.alloc (.cells zeroF tFnt)) w3.heap.size tFnt zeroF := Bk.new _ _ _
      obtain ⟨w4, hw4⟩ : ∃ x, w3.alloc (.cells zeroF tFnt) = x := ⟨_, rfl⟩
      rw [hw4] at hb4 hk4
      rw [hw4]
      have hz4 := hb4.size
      have hf2 := parseFont_ok w4 S3 (by omega) (HTB2.out.below hb4) (Nat.le_trans hnT (Nat.le_trans hz2 hz4))
      have HF2 := Lib.hid hf2
      have HB4 := Lib.hid hb4
      have HK4 := Lib.hid hk4
      have hce4 := ((bcell hb4).1 _ _ HKB.out.lt).trans hce
      have zD : WA.heap.size < w4.heap.size := Nat.lt_of_lt_of_le zB hz4
      have zf : w3.heap.size < w4.heap.size := hk4.lt
      clear hf2 hb3 hb4 hk4 hce hcs hw4 HB3
      refine HF2.out.mono ?_
      rintro e w5 ⟨hb5, hmt⟩
      clear HF2
      have hrok := HR1.out
      generalize parseL S3 = R at *
      cases R with
      | error x => cases hrok
      | ok g =>
        obtain ⟨fc, rfl, hfn⟩ := hmt
        simp only [rightOk, Bool.and_eq_true, beq_iff_eq] at hrok
        obtain ⟨A1, c1, A2, c2, A3, c3, A4, c4, A5, c5, A6, c6, A7, c7, A8, c8, rfl, -⟩ := hfn
        have hce5 := ((bcell hb5).1 _ _ zD).trans hce4
        have hf5 : w5.cell? ⟨w3.heap.size, 1, none⟩ = some (.slice none 0 0) := ((bcell hb5).1 _ _ zf).trans (HK4.out.cell 1)
        have hz5 := hb5.size
        have HB5 : Hid (Below w.heap.size w w5) := Lib.hid (HB2.out.trans ((HB4.out.trans (hb5.mono HB4.out.size)).mono hz2))
        have zD5 : WA.heap.size < w5.heap.size := by omega
        have zf5 : w3.heap.size < w5.heap.size := by omega
        rw [hrok.1, hrok.2]
        clear hce4 hb5 hrok HR1 hap2
        go_wp2_with fail
        go_ret
        exact ⟨rfl, HB5.out.alloc (by omega) _⟩
end Go.Proofs.YtkijckccfookeaaGreatDoor
/- ParseWrong at any two bytes. -/
namespace Go.Proofs.YtkijckccfookeaaGreatDoor
open Go.RowKit

theorem parseWrong_row (w : World) (a : Int) (ha : (Lit.int .u8 a).wf = true) (b : Int) (hb : (Lit.int .u8 b).wf = true) (hTb : PTabs w) (hnT : nT ≤ w.heap.size) : Calls Tryz.prog 11 #[.int .u8 a, .int .u8 b] w fun e w' => e = .returned (.bool true) ∧ Below w.heap.size w w' := by
  obtain ⟨a1, a2⟩ := bounds_u8 ha
  obtain ⟨b1, b2⟩ := bounds_u8 hb
  have h := parseWrong_ok w a.toNat b.toNat (by omega) (by omega) hTb hnT
  rw [Int.toNat_of_nonneg a1, Int.toNat_of_nonneg b1] at h
  exact h
end Go.Proofs.YtkijckccfookeaaGreatDoor
