/- fleuronlaw08.ParseOps returns true. -/
import Derived.Test.YtkijckccfookeaaGreatDoorL41
import Derived.Test.YtkijckccfookeaaGreatDoorL43
import Derived.Test.YtkijckccfookeaaGreatDoorL44
import Derived.Test.YtkijckccfookeaaGreatDoorSmall
import Derived.Deep.Cut
import Derived.Deep.RegionHeld3
import Derived.OpenShut
namespace Go.Proofs.YtkijckccfookeaaGreatDoor
open Go.RowKit

theorem and_small (n : Int) (k : Nat) (hk : k < 4611686018427387904) : ∃ y : Nat, bits .and .i64 n (k : Int) = y ∧ y ≤ k := by
  have h2 : (BitVec.ofInt 64 (k : Int)).toNat = k := by
    rw [BitVec.ofInt_natCast, BitVec.toNat_ofNat]
    exact Nat.mod_eq_of_lt (by omega)
  have hle : (BitVec.ofInt 64 n &&& BitVec.ofInt 64 (k : Int)).toNat ≤ k := by
    rw [BitVec.toNat_and, h2]
    exact Nat.and_le_right
  refine ⟨_, ?_, hle⟩
  show IntKind.i64.wrap ((BitVec.ofInt 64 n &&& BitVec.ofInt 64 (k : Int)).toNat : Int) = _
  generalize (BitVec.ofInt 64 n &&& BitVec.ofInt 64 (k : Int)).toNat = y at *
  simp [IntKind.wrap, IntKind.signed, IntKind.bits]
  omega
theorem alloc_cell {w : World} (o : Obj) {a : Addr} {v : Value} (h : w.cell? a = some v) : (w.alloc o).cell? a = some v := (only_alloc (World.grownBy.refl w none) o).cell h (by simp)
theorem set_far {w : World} {g i g' i' : Nat} {u v : Value} (h : w.cell? ⟨g, i, none⟩ = some v) (hne : g ≠ g') : (w.setCell ⟨g', i', none⟩ u).cell? ⟨g, i, none⟩ = some v := (World.cell?_of_block (a := ⟨g, i, none⟩) (Below.heap_setCell w ⟨g', i', none⟩ u g hne)).trans h
theorem drew_cell {w : World} {a : Addr} {v : Value} (h : w.cell? a = some v) : w.drew.cell? a = some v := h
theorem dt_lt {w : World} {b : Nat} (h : Dt w b) : b < w.heap.size := by obtain ⟨cs, t, hk, -⟩ := h; exact hk.lt
theorem dt_ne {w : World} {b g : Nat} (h : Dt w b) {cs : Array Value} (hk : Bk w g tFnt cs) : b ≠ g := by
  rintro rfl
  obtain ⟨cs', t, h1, h2⟩ := h
  rw [(bk_one h1 hk).1] at h2
  revert h2
  decide
theorem below_nine {B : Nat} {a w : World} {g : Nat} (h : Below B a w) (hg : B ≤ g) (v0 v1 v2 v3 v4 v5 v6 v7 v8 : Value) : Below B a (((((((((w.setCell ⟨g, 0, none⟩ v0).setCell ⟨g, 1, none⟩ v1).setCell ⟨g, 2, none⟩ v2).setCell ⟨g, 3, none⟩ v3).setCell ⟨g, 4, none⟩ v4).setCell ⟨g, 5, none⟩ v5).setCell ⟨g, 6, none⟩ v6).setCell ⟨g, 7, none⟩ v7).setCell ⟨g, 8, none⟩ v8) :=
  ((((((((h.setCell (p := ⟨g, 0, none⟩) hg v0).setCell (p := ⟨g, 1, none⟩) hg v1).setCell (p := ⟨g, 2, none⟩) hg v2).setCell (p := ⟨g, 3, none⟩) hg v3).setCell (p := ⟨g, 4, none⟩) hg v4).setCell (p := ⟨g, 5, none⟩) hg v5).setCell (p := ⟨g, 6, none⟩) hg v6).setCell (p := ⟨g, 7, none⟩) hg v7).setCell (p := ⟨g, 8, none⟩) hg v8
theorem tmod_1000 (n : Int) : ∃ a : Int, n.tmod 1000 = a ∧ -1000 < a ∧ a < 1000 := by
  obtain ⟨r, h1, h2, h3⟩ := tmod_any n 1000 (by omega)
  exact ⟨r, h1, h2, h3⟩
theorem op_get (i : Nat) (hi : i < 39) : opNames[i]? = some (opB ((i : Int) + 1)) := by
  obtain ⟨s, e1, -⟩ := op_facts ⟨i, hi⟩
  simp only at e1
  rw [e1, opB, pick, if_neg (by omega), show ((i : Int) + 1 - 1).toNat = i by omega, e1]
  rfl
theorem hint_fnt {w : World} {fc : List Value} {n a : Int} (h : FntR w (Dt w) fc (hintF n a)) : ∃ b1 o1 c1 A2 d2 A3 d3 A4 d4 A5 d5 A6 d6 A7 d7 A8 d8 b9 o9 c9, fc = [.int .i64 0, .slice (some ⟨b1, o1, none⟩) 1 c1, .slice A2 0 d2, .slice A3 0 d3, .slice A4 0 d4, .slice A5 0 d5, .slice A6 0 d6, .slice A7 0 d7, .slice A8 0 d8] ∧
    Dt w b1 ∧ Dt w b9 ∧ w.cell? ⟨b1, o1 + 8, none⟩ = some (.slice (some ⟨b9, o9, none⟩) 1 c9) ∧ w.cell? ⟨b9, o9, none⟩ = some (.int .i64 n) ∧ w.cell? ⟨b9, o9 + 1, none⟩ = some (.int .i64 a) := by
  obtain ⟨A1, c1, A2, c2, A3, c3, A4, c4, A5, c5, A6, c6, A7, c7, A8, c8, e, -, h1, -⟩ := h
  obtain ⟨b1, o1, x, A13, c13, A14, c14, A15, c15, A16, c16, A17, c17, A18, c18, rfl, hb1, hx, -, -, -, -, -, -, -, -, q8, -, -, -, -, -, -, hp⟩ := h1.glyph (k := 0) (by simp [hintF])
  have hx1 : x = ⟨[97], 0, false, [], [], [], [], [], [⟨n, a⟩]⟩ := by have := hx.out; simp only [hintF, List.getElem?_cons_zero, Option.some.injEq] at this; exact this.symm
  subst hx1
  obtain ⟨b9, o9, z, rfl, hb9, hz, r0, r1, -⟩ := hp.ins (k := 0) (by simp)
  have hz1 : z = ⟨n, a⟩ := by have := hz.out; simp only [List.getElem?_cons_zero, Option.some.injEq] at this; exact this.symm
  subst hz1
  simp only [Nat.zero_mul, Nat.add_zero] at q8 r0 r1
  exact ⟨b1, o1, c1, A2, c2, A3, c3, A4, c4, A5, c5, A6, c6, A7, c7, A8, c8, b9, o9, c18, e, hb1, hb9, q8, r0, r1⟩
set_option maxRecDepth 100000 in
set_option maxHeartbeats 8000000 in
theorem parseOps_ok (w : World) (s : B) (n : Int) (hn : I64 n) (hTb : PTabs w) (hnT : nT ≤ w.heap.size) : Calls Tryz.prog 6 #[.string ⟨s.toArray⟩, .int .i64 n] w fun e w' => e = .returned (.bool true) ∧ Below w.heap.size w w' := by
  have e0 : (min (s.length : Int) 20).toNat = min s.length 20 := by omega
  have e2 : s.take (min s.length 20) = s.take 20 := by rw [Nat.min_comm, ← List.take_take, List.take_length]
  go_enter Tryz.func6, Tryz.ntmps6
  go_wp2_with fail
  refine (shown_ok w hTb hnT).mono ?_
  rintro e w1 ⟨rfl, hb1⟩
  have HB1 := Lib.hid hb1
  have HTB := Lib.hid (hTb.below hb1)
  have hz1 := hb1.size
  clear hb1 hTb
  go_upto_region 3 with fail
  have hex : (ByteArray.mk s.toArray).extract 0 (min s.length 20) = ⟨(s.take 20).toArray⟩ := by rw [extract_list, List.drop_zero, e2]
  rw [hex]
  have htl : (s.take 20).length ≤ 20 := by rw [List.length_take]; omega
  generalize s.take 20 = t at *
  have Hop := Lib.hid (fun w h => parseOp_ok w t h)
  clear hex e0 e2
  go_wp2_with fail
  refine (Hop.out w1 HTB.out.ops).mono ?_
  rintro e w2 ⟨rfl, rfl⟩
  clear Hop
  go_wp2_with fail
  refine (op08_ok w1 t).mono ?_
  rintro e w2 ⟨rfl, hb2⟩
  have HB2 : Hid (Below w.heap.size w w2) := Lib.hid (HB1.out.trans (hb2.mono hz1))
  have HTB2 : Hid (PTabs w2) := Lib.hid (HTB.out.below hb2)
  have hz2 := HB2.out.size
  clear hb2 HTB HB1
  have hm : opN t = 0 ∨ 1 ≤ opN t := by unfold opN; split <;> omega
  generalize opN t = m at *
  go_wp2_with fail
  refine (ops08_ok w2).mono ?_
  rintro e w3 ⟨rfl, rfl⟩
  go_upto_region 7 with fail
  have h39 : ∃ i : Nat, (bits .and .i64 n 65535).tmod 39 = i ∧ i < 39 := by
    obtain ⟨y, hy, -⟩ := and_small n 65535 (by omega)
    refine ⟨y % 39, ?_, Nat.mod_lt _ (by omega)⟩
    rw [show (65535 : Int) = ((65535 : Nat) : Int) by rfl, hy, Int.tmod_eq_emod_of_nonneg (by omega)]
    omega
  obtain ⟨i, hi, hil⟩ := h39
  obtain ⟨a, ha, ha1, ha2⟩ := tmod_1000 n
  rw [hi]
  obtain ⟨w3, hw3⟩ : ∃ x, w2.alloc (.cells (strs opNames).toArray 9) = x := ⟨_, rfl⟩
  rw [hw3]
  have hk3 : Bk w3 w2.heap.size 9 (strs opNames).toArray := hw3 ▸ Bk.new _ _ _
  have hb3 : Below w2.heap.size w2 w3 := hw3 ▸ (Below.refl _ _).alloc (Nat.le_refl _) _
  have hc3 : w3.cell? ⟨w2.heap.size, i, none⟩ = some (.string ⟨(opB ((i : Int) + 1)).toArray⟩) := by
    rw [hk3.cell i, ← Array.getElem?_toList]
    exact strs_get (op_get i hil)
  have HB3 : Hid (Below w.heap.size w w3) := Lib.hid (HB2.out.trans (hb3.mono hz2))
  have HTB3 : Hid (PTabs w3) := Lib.hid (HTB2.out.below hb3)
  have z3 := hk3.lt
  have hz3 := HB3.out.size
  obtain ⟨f1, f2, f3⟩ := opB_facts ((i : Int) + 1) (by omega) (by omega)
  have hol : (opB ((i : Int) + 1)).length ≤ 8 := pick_len opNames 8 op_len (by decide) _
  have hpo := parseOp_ok w3 (opB ((i : Int) + 1)) HTB3.out.ops
  rw [f1] at hpo
  have HPO := Lib.hid hpo
  have hsrc : Hid (parseL (hintSrc ((i : Int) + 1) a) = .ok (hintF ((i : Int) + 1) a)) := Lib.hid (parse_hint _ _ (by omega) (by omega) ⟨by omega, by omega⟩)
  have hse : hintSrc ((i : Int) + 1) a = [103, 108, 121, 112, 104, 32, 97, 32, 48, 10, 104, 105, 110, 116, 32] ++ opB ((i : Int) + 1) ++ [58] ++ itB a := by simp [hintSrc, hintW]
  have HSE := Lib.hid hse
  have hil2 := it_len a ⟨by omega, by omega⟩
  have HDEC := Lib.hid (fun w' => decimal_ok w' a ⟨by omega, by omega⟩)
  clear hw3 hk3 hb3 HB2 HTB2 f1 f2 f3 hpo hse hi
  generalize opB ((i : Int) + 1) = o at *
  generalize itB a = d at *
  go_wp2_with fail
  refine HPO.out.mono ?_
  rintro e w4 ⟨rfl, rfl⟩
  clear HPO
  go_upto_region 8 with fail
  have hap : (ByteArray.mk #[103, 108, 121, 112, 104, 32, 97, 32, 48, 10, 104, 105, 110, 116, 32]) ++ ⟨o.toArray⟩ = ⟨([103, 108, 121, 112, 104, 32, 97, 32, 48, 10, 104, 105, 110, 116, 32] ++ o).toArray⟩ := app_list [103, 108, 121, 112, 104, 32, 97, 32, 48, 10, 104, 105, 110, 116, 32] o
  have hl1 : ([103, 108, 121, 112, 104, 32, 97, 32, 48, 10, 104, 105, 110, 116, 32] ++ o).length ≤ 100 := by simp; omega
  have radd0 : ∀ w', (Op.stringOp .add ⟨#[103, 108, 121, 112, 104, 32, 97, 32, 48, 10, 104, 105, 110, 116, 32]⟩ ⟨o.toArray⟩).run Tryz.prog w' = .ok (.string ⟨([103, 108, 121, 112, 104, 32, 97, 32, 48, 10, 104, 105, 110, 116, 32] ++ o).toArray⟩) w' := fun w' => run_string_add_lists w' [103, 108, 121, 112, 104, 32, 97, 32, 48, 10, 104, 105, 110, 116, 32] o (by simp) (by omega)
  generalize ([103, 108, 121, 112, 104, 32, 97, 32, 48, 10, 104, 105, 110, 116, 32] ++ o) = s1 at *
  have hap1 : (ByteArray.mk s1.toArray) ++ ⟨#[58]⟩ = ⟨(s1 ++ [58]).toArray⟩ := app_list s1 [58]
  have hl2 : (s1 ++ [58]).length ≤ 101 := by simp; omega
  have radd1 : ∀ w', (Op.stringOp .add ⟨s1.toArray⟩ ⟨#[58]⟩).run Tryz.prog w' = .ok (.string ⟨(s1 ++ [58]).toArray⟩) w' := fun w' => run_string_add_lists w' s1 [58] (by omega) (by simp)
  generalize (s1 ++ [58]) = s2 at *
  have hap2 : (ByteArray.mk s2.toArray) ++ ⟨d.toArray⟩ = ⟨(s2 ++ d).toArray⟩ := app_list s2 d
  have hl3 : (s2 ++ d).length ≤ 111 := by simp; omega
  rw [HSE.out] at hsrc
  have radd2 : ∀ w', (Op.stringOp .add ⟨s2.toArray⟩ ⟨d.toArray⟩).run Tryz.prog w' = .ok (.string ⟨(s2 ++ d).toArray⟩) w' := fun w' => run_string_add_lists w' s2 d (by omega) (by omega)
  generalize (s2 ++ d) = s3 at *
  have HF := Lib.hid (fun w' h1 h2 => parseFont_ok w' s3 (by omega) h1 h2)
  clear HSE
  have hsub : ∀ {wa wb : World}, Below wa.heap.size wa wb → Below w3.heap.size w3 wa → Below w3.heap.size w3 wb := fun h k => k.trans (h.mono k.size)
  have hd3 : Below w3.heap.size w3 w3.drew := (Below.refl _ _).drew
  have hi1 : (i : Int) < 39 := by omega
  have hc3d : w3.drew.cell? ⟨w2.heap.size, i, none⟩ = some (.string ⟨o.toArray⟩) := hc3
  have hne3 : w2.heap.size ≠ w3.heap.size := by omega
  have hi2 : (0 : Int) ≤ i := by omega
  go_region_held3 (fun w' => w'.cell? ⟨w2.heap.size, i, none⟩ = some (.string ⟨o.toArray⟩)) (first | with_reducible exact hc3d | with_reducible exact drew_cell (alloc_cell _ hc3) | with_reducible exact alloc_cell _ hc3d | with_reducible exact hc3 | with_reducible exact hc5 | with_reducible exact hc4 | with_reducible exact alloc_cell _ hc5 | with_reducible exact alloc_cell _ hc4 | with_reducible exact alloc_cell _ hc3 | with_reducible exact (set_far (set_far (set_far (set_far (set_far (set_far (set_far (set_far (set_far (alloc_cell _ hc5) hne5) hne5) hne5) hne5) hne5) hne5) hne5) hne5) hne5) | with_reducible exact (set_far (set_far (set_far (set_far (set_far (set_far (set_far (set_far (set_far hc5 hne4) hne4) hne4) hne4) hne4) hne4) hne4) hne4) hne4) | with_reducible exact (set_far (set_far (set_far (set_far (set_far (set_far (set_far (set_far (set_far hc5 hne3) hne3) hne3) hne3) hne3) hne3) hne3) hne3) hne3)) (first
    | (go_at_call 28; refine (HDEC.out _).mono ?_; rintro e w4 ⟨rfl, hb4'⟩; (have hb4 : Below w3.heap.size w3 w4 := (by first | exact hsub hb4' hd3 | exact hsub hb4' (hd3.alloc (Nat.le_refl _) _) | exact hsub hb4' ((Below.refl _ _).alloc (Nat.le_refl _) _).drew)); (try (have hkf4 : Bk w4 w3.heap.size tFnt zeroF := Bk.keep (Bk.new w3 tFnt zeroF) (hb4'.block w3.heap.size (by simp)))); have hc4 : w4.cell? ⟨w2.heap.size, i, none⟩ = some (.string ⟨o.toArray⟩) := ((bcell hb4).1 _ _ z3).trans hc3; have z4 : w2.heap.size < w4.heap.size := Nat.lt_of_lt_of_le z3 hb4.size; have hne4 : w2.heap.size ≠ w4.heap.size := (by omega); clear hb4')
    | (go_at_call 19; refine (HF.out _ (HTB3.out.below (by first | exact hb4 | exact hb4.alloc hb4.size _)) (Nat.le_trans hnT (Nat.le_trans hz3 (by first | exact hb4.size | (simp; have := hb4.size; omega))))).mono ?_; rintro e w5 ⟨hb5, hmt⟩; rw [hsrc.out] at hmt; obtain ⟨fc, rfl, hfn⟩ := hmt; obtain ⟨b1, o1, c1, A2, d2, A3, d3, A4, d4, A5, d5, A6, d6, A7, d7, A8, d8, b9, o9, c9, rfl, db1, db9, q1, q2, q3⟩ := hint_fnt hfn; have zb1 := dt_lt db1; have zb9 := dt_lt db9;
        (have hb35 : Below w3.heap.size w3 w5 := (by first | exact hsub hb5 hb4 | exact hsub hb5 (hb4.alloc hb4.size _))); have HB5 : Hid (Below w.heap.size w w5) := Lib.hid (HB3.out.trans (hb35.mono hz3)); have hc5 : w5.cell? ⟨w2.heap.size, i, none⟩ = some (.string ⟨o.toArray⟩) := ((bcell hb35).1 _ _ z3).trans hc3; (have hne5 : w2.heap.size ≠ w5.heap.size := (by have := hb35.size; omega)); clear hb35; have hz5 := HB5.out.size;
        (try (have hkf5 : Bk w5 w3.heap.size tFnt zeroF := hkf4.keep (hb5.block _ hkf4.lt); have zg := hkf5.lt; have nb1 := dt_ne db1 hkf5; have nb9 := dt_ne db9 hkf5; have hg3 : w.heap.size ≤ w3.heap.size := hz3; have k0 := hkf5.cell 0; have y0 := hkf5.frozen 0; have k1 := hkf5.cell 1; have y1 := hkf5.frozen 1; have k2 := hkf5.cell 2; have y2 := hkf5.frozen 2; have k3 := hkf5.cell 3; have y3 := hkf5.frozen 3; have k4 := hkf5.cell 4; have y4 := hkf5.frozen 4; have k5 := hkf5.cell 5; have y5 := hkf5.frozen 5; have k6 := hkf5.cell 6; have y6 := hkf5.frozen 6; have k7 := hkf5.cell 7; have y7 := hkf5.frozen 7; have k8 := hkf5.cell 8; have y8 := hkf5.frozen 8; clear hkf5 hkf4));
        (try (have hkf5 : Bk w5 w4.heap.size tFnt zeroF := Bk.keep (Bk.new w4 tFnt zeroF) (hb5.block w4.heap.size (by simp)); have zg := hkf5.lt; have nb1 := dt_ne db1 hkf5; have nb9 := dt_ne db9 hkf5; have hg4 : w.heap.size ≤ w4.heap.size := Nat.le_trans hz3 hb4.size; have k0 := hkf5.cell 0; have y0 := hkf5.frozen 0; have k1 := hkf5.cell 1; have y1 := hkf5.frozen 1; have k2 := hkf5.cell 2; have y2 := hkf5.frozen 2; have k3 := hkf5.cell 3; have y3 := hkf5.frozen 3; have k4 := hkf5.cell 4; have y4 := hkf5.frozen 4; have k5 := hkf5.cell 5; have y5 := hkf5.frozen 5; have k6 := hkf5.cell 6; have y6 := hkf5.frozen 6; have k7 := hkf5.cell 7; have y7 := hkf5.frozen 7; have k8 := hkf5.cell 8; have y8 := hkf5.frozen 8; clear hkf5));
        clear hb5 hb4 hfn db1 db9))
  all_goals
    go_upto_region 11 with fail
    have e13 : ((i : Int) + 1 != 0) = true := by simp; omega
    rcases hm with rfl | hm
    · go_wp2_with fail
      go_ret
      exact ⟨rfl, by first | with_reducible exact HB5.out.alloc hz5 _ | with_reducible exact below_nine HB5.out hg4 _ _ _ _ _ _ _ _ _ | with_reducible exact below_nine HB5.out hg3 _ _ _ _ _ _ _ _ _⟩
    · have e8 : (m != 0) = true := by simp; omega
      have e9 : decide (0 < m) = true := by simp; omega
      go_wp2_with fail
      go_ret
      exact ⟨rfl, by first | with_reducible exact HB5.out.alloc hz5 _ | with_reducible exact below_nine HB5.out hg4 _ _ _ _ _ _ _ _ _ | with_reducible exact below_nine HB5.out hg3 _ _ _ _ _ _ _ _ _⟩
end Go.Proofs.YtkijckccfookeaaGreatDoor
/- ParseOps at any text, any number. -/
namespace Go.Proofs.YtkijckccfookeaaGreatDoor
open Go.RowKit

theorem parseOps_row (w : World) (s : B) (n : Int) (hn : (Lit.int .i64 n).wf = true) (hTb : PTabs w) (hnT : nT ≤ w.heap.size) : Calls Tryz.prog 6 #[.string ⟨s.toArray⟩, .int .i64 n] w fun e w' => e = .returned (.bool true) ∧ Below w.heap.size w w' := by
  have h : I64 n := bounds_i64 hn
  exact parseOps_ok w s n h hTb hnT
end Go.Proofs.YtkijckccfookeaaGreatDoor
