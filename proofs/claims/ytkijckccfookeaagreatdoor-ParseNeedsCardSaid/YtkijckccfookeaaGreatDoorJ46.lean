/- fleuronlaw08.ParseNeeds returns true. -/
import Derived.Test.YtkijckccfookeaaGreatDoorJ45
import Derived.OpenShut
namespace Go.Proofs.YtkijckccfookeaaGreatDoor
open Go.RowKit

theorem app_listF (a b : B) : (ByteArray.mk a.toArray) ++ ⟨b.toArray⟩ = ⟨(a ++ b).toArray⟩ := by
  apply ByteArray.ext
  rw [ByteArray.data_append]
  apply Array.ext'
  simp
theorem tmod_nat (a m : Nat) : ((a : Int)).tmod (m : Int) = ((a % m : Nat) : Int) := by
  rw [Int.tmod_eq_emod_of_nonneg (by omega)]
  simp
def nH (k i : Nat) : B := (List.range i).flatMap (needHead k)
theorem nH_snoc (k i : Nat) : nH k (i + 1) = nH k i ++ needHead k i := by
  unfold nH
  rw [List.range_succ, List.flatMap_append]
  simp
theorem needHead_len (k i : Nat) : (needHead k i).length ≤ 20 := by
  unfold needHead
  split <;> simp
theorem nH_len (k i : Nat) : (nH k i).length ≤ 20 * i := by
  induction i with
  | zero => simp [nH]
  | succ i ih =>
    rw [nH_snoc, List.length_append]
    have := needHead_len k i
    omega
def nT2 : B := [108, 111, 111, 107, 117, 112, 32, 99, 104, 97, 105, 110, 10]
def nM (i : Nat) : B := (List.range i).flatMap (fun _ => nT2)
theorem nM_snoc (i : Nat) : nM (i + 1) = nM i ++ nT2 := by
  unfold nM
  rw [List.range_succ, List.flatMap_append]
  simp
theorem nM_len (i : Nat) : (nM i).length = 13 * i := by
  induction i with
  | zero => rfl
  | succ i ih => rw [nM_snoc, List.length_append, ih]; show _ + 13 = _; omega
theorem names_at2 (i : Nat) (h : i < 6) : (ByteArray.mk #[97, 98, 99, 100, 101, 102]).extract i (i + 1) = ⟨([(97 + i).toUInt8] : B).toArray⟩ := by
  have : i = 0 ∨ i = 1 ∨ i = 2 ∨ i = 3 ∨ i = 4 ∨ i = 5 := by omega
  rcases this with rfl | rfl | rfl | rfl | rfl | rfl <;> rfl
theorem needS_at (k : Nat) (h : k < 6) : ∃ s, needS[k]? = some s ∧ needS.getD k [] = s ∧ s.length ≤ 20 := by
  have : k = 0 ∨ k = 1 ∨ k = 2 ∨ k = 3 ∨ k = 4 ∨ k = 5 := by omega
  rcases this with rfl | rfl | rfl | rfl | rfl | rfl <;> exact ⟨_, rfl, rfl, by decide⟩
set_option maxRecDepth 100000 in
set_option maxHeartbeats 8000000 in
theorem parseNeeds_ok (w : World) (a b c : Nat) (ha : a < 256) (hb : b < 256) (hc : c < 256) (hTb : PTabs w) (hnT : nT ≤ w.heap.size) : Calls Tryz.prog 12 #[.int .u8 a, .int .u8 b, .int .u8 c] w fun e w' => e = .returned (.bool true) ∧ Below w.heap.size w w' := by
  have hk1 : ((a : Int)).tmod 6 = ((a % 6 : Nat) : Int) := tmod_nat a 6
  have hn1 : ((b : Int)).tmod 6 = ((b % 6 : Nat) : Int) := tmod_nat b 6
  have hm1 : ((c : Int)).tmod 4 = ((c % 4 : Nat) : Int) := tmod_nat c 4
  have hk2 : ((a : Int)) % 6 = ((a % 6 : Nat) : Int) := by omega
  have hn2 : ((b : Int)) % 6 = ((b % 6 : Nat) : Int) := by omega
  have hm2 : ((c : Int)) % 4 = ((c % 4 : Nat) : Int) := by omega
  have hkl : a % 6 < 6 := Nat.mod_lt _ (by omega)
  have hnl : b % 6 < 6 := Nat.mod_lt _ (by omega)
  have hml : c % 4 < 4 := Nat.mod_lt _ (by omega)
  have hall := Lib.hid (need_all ⟨a % 6, hkl⟩ ⟨b % 6, hnl⟩ ⟨c % 4, hml⟩)
  simp only at hall
  go_enter Tryz.func12, Tryz.ntmps12
  go_wp2_with fail
  refine (shown_ok w hTb hnT).mono ?_
  rintro e w1 ⟨rfl, hb1⟩
  have HB1 := Lib.hid hb1
  have HTB := Lib.hid (hTb.below hb1)
  have hz1 := hb1.size
  clear hb1 hTb
  generalize hk : a % 6 = k at *
  generalize hn : b % 6 = n at *
  generalize hm : c % 4 = m at *
  clear hk hn hm
  go_wp2_with fail
  obtain ⟨W2, hW2⟩ : ∃ x, (w1.alloc (.cells #[.string ⟨#[99, 111, 110, 116, 111, 117, 114, 32, 49, 44, 50, 32, 51, 44, 52]⟩, .string ⟨#[112, 97, 114, 116, 32, 122, 32, 53, 32, 54]⟩, .string ⟨#[97, 110, 99, 104, 111, 114, 32, 98, 97, 115, 101, 32, 48, 32, 49, 32, 50]⟩, .string ⟨#[100, 101, 108, 116, 97, 32, 48, 32, 48, 32, 49, 32, 49]⟩, .string ⟨#[104, 105, 110, 116, 32, 112, 111, 112]⟩, .string ⟨#[114, 117, 108, 101, 32, 47, 32, 122, 32, 47, 32, 62]⟩] 85)) = x := ⟨_, rfl⟩
  rw [hW2]
  have hkS : Bk W2 w1.heap.size 85 #[.string ⟨#[99, 111, 110, 116, 111, 117, 114, 32, 49, 44, 50, 32, 51, 44, 52]⟩, .string ⟨#[112, 97, 114, 116, 32, 122, 32, 53, 32, 54]⟩, .string ⟨#[97, 110, 99, 104, 111, 114, 32, 98, 97, 115, 101, 32, 48, 32, 49, 32, 50]⟩, .string ⟨#[100, 101, 108, 116, 97, 32, 48, 32, 48, 32, 49, 32, 49]⟩, .string ⟨#[104, 105, 110, 116, 32, 112, 111, 112]⟩, .string ⟨#[114, 117, 108, 101, 32, 47, 32, 122, 32, 47, 32, 62]⟩] := hW2 ▸ Bk.new _ _ _
  have hb2 : Below w.heap.size w W2 := hW2 ▸ HB1.out.alloc hz1 _
  have HTB2 : Hid (PTabs W2) := hW2 ▸ HTB.out.below ((Below.refl _ _).alloc (Nat.le_refl _) _)
  have HB2 := Lib.hid hb2
  have HKS := Lib.hid hkS
  have hz2 : w.heap.size ≤ W2.heap.size := hb2.size
  have zs := hkS.lt
  clear hW2 hkS hb2
  go_loopw [12, 13] (fun s i wr => ∃ j : Nat, j ≤ n ∧ i = .int .i64 j ∧ s = .string ⟨(nH k j).toArray⟩ ∧ W2 = wr) (fun _ i _ => n - (intOf i).toNat)
  case atStart => exact ⟨0, Nat.zero_le _, rfl, rfl, rfl⟩
  case round =>
    obtain ⟨j, hj, rfl, rfl, rfl⟩ := hrel
    by_cases hlt : j < n
    · have hlen := nH_len k j
      have hsn := Lib.hid (nH_snoc k j)
      have hj6 : j < 6 := by omega
      generalize nH k j = S at *
      by_cases h5 : k = 5
      · subst h5
        have hap : (ByteArray.mk S.toArray) ++ ⟨#[108, 111, 111, 107, 117, 112, 32, 108, 105, 103, 97, 116, 117, 114, 101, 10]⟩ = ⟨(S ++ [108, 111, 111, 107, 117, 112, 32, 108, 105, 103, 97, 116, 117, 114, 101, 10]).toArray⟩ := app_listF S [108, 111, 111, 107, 117, 112, 32, 108, 105, 103, 97, 116, 117, 114, 101, 10]
        go_wp2_with fail
        go_roundw
        case rel => exact ⟨j + 1, by omega, by simp, by rw [hsn.out]; rfl, by simp⟩
        case measure => simp [intOf]; omega
      · have e5 : ((k : Int) == 5) = false := by simp; omega
        have hex := names_at2 j hj6
        obtain ⟨ch, hch⟩ : ∃ x, (97 + j).toUInt8 = x := ⟨_, rfl⟩
        rw [hch] at hex
        have hap : (ByteArray.mk S.toArray) ++ ⟨#[103, 108, 121, 112, 104, 32]⟩ = ⟨(S ++ [103, 108, 121, 112, 104, 32]).toArray⟩ := app_listF S [103, 108, 121, 112, 104, 32]
        obtain ⟨S1, hS1⟩ : ∃ x, S ++ [103, 108, 121, 112, 104, 32] = x := ⟨_, rfl⟩
        rw [hS1] at hap
        have hap1 : (ByteArray.mk S1.toArray) ++ ⟨#[ch]⟩ = ⟨(S1 ++ [ch]).toArray⟩ := app_listF S1 [ch]
        obtain ⟨S2, hS2⟩ : ∃ x, S1 ++ [ch] = x := ⟨_, rfl⟩
        rw [hS2] at hap1
        have hap2 : (ByteArray.mk S2.toArray) ++ ⟨#[32, 48, 10]⟩ = ⟨(S2 ++ [32, 48, 10]).toArray⟩ := app_listF S2 [32, 48, 10]
        have hl1 : S1.length ≤ 200 := by rw [← hS1, List.length_append]; simp; omega
        have hl2 : S2.length ≤ 300 := by rw [← hS2, List.length_append]; simp; omega
        have HS : Hid (nH k (j + 1) = S2 ++ [32, 48, 10]) := by
          show _ = _
          rw [hsn.out, needHead, if_neg h5, ← hS2, ← hS1, ← hch]
          simp
        clear hS1 hS2 hsn hch
        go_wp2_with fail
        go_roundw
        case rel => exact ⟨j + 1, by omega, by simp, by rw [HS.out], by simp⟩
        case measure => simp [intOf]; omega
    · obtain rfl : j = n := by omega
      have hlen := nH_len k j
      obtain ⟨sk, hs1, hs2, hs3⟩ := needS_at k hkl
      have hcell : W2.cell? ⟨w1.heap.size, k, none⟩ = some (.string ⟨sk.toArray⟩) := by
        rw [HKS.out.cell k, ← Array.getElem?_toList]
        exact strs_get (l := needS) hs1
      have HSK := Lib.hid hs2
      have HSR : Hid (needSrc k j m = nH k j ++ (sk ++ ([10] ++ (nM m ++ [103, 108, 121, 112, 104, 32, 122, 32, 57, 10])))) := by
        show _ = _
        rw [← hs2]
        rfl
      generalize nH k j = S at *
      have hap : (ByteArray.mk S.toArray) ++ ⟨sk.toArray⟩ = ⟨(S ++ sk).toArray⟩ := app_listF S sk
      obtain ⟨S1, hS1⟩ : ∃ x, S ++ sk = x := ⟨_, rfl⟩
      rw [hS1] at hap
      have hap1 : (ByteArray.mk S1.toArray) ++ ⟨#[10]⟩ = ⟨(S1 ++ [10]).toArray⟩ := app_listF S1 [10]
      obtain ⟨S2, hS2⟩ : ∃ x, S1 ++ [10] = x := ⟨_, rfl⟩
      rw [hS2] at hap1
      have hl1 : S1.length ≤ 200 := by rw [← hS1, List.length_append]; omega
      have hl2 : S2.length ≤ 201 := by rw [← hS2, List.length_append]; simp; omega
      have HSR2 : Hid (needSrc k j m = S2 ++ (nM m ++ [103, 108, 121, 112, 104, 32, 122, 32, 57, 10])) := by
        show _ = _
        rw [HSR.out, ← hS2, ← hS1]
        simp
      clear hS1 hS2 HSR hs1 hs2 HSK
      go_wp2_with fail
      go_loopw [12, 14] (fun s i wr => ∃ q : Nat, q ≤ m ∧ i = .int .i64 q ∧ s = .string ⟨(S2 ++ nM q).toArray⟩ ∧ W2 = wr) (fun _ i _ => m - (intOf i).toNat)
      case atStart => exact ⟨0, Nat.zero_le _, rfl, by simp [nM], rfl⟩
      case round =>
        obtain ⟨q, hq, rfl, rfl, rfl⟩ := hrel
        by_cases hltq : q < m
        · have hml2 := nM_len q
          have hsn := Lib.hid (nM_snoc q)
          have hl3 : (S2 ++ nM q).length ≤ 300 := by rw [List.length_append]; omega
          have HN : Hid (S2 ++ nM (q + 1) = (S2 ++ nM q) ++ nT2) := by show _ = _; rw [hsn.out, List.append_assoc]
          generalize S2 ++ nM q = S3 at *
          have hap3 : (ByteArray.mk S3.toArray) ++ ⟨#[108, 111, 111, 107, 117, 112, 32, 99, 104, 97, 105, 110, 10]⟩ = ⟨(S3 ++ nT2).toArray⟩ := app_listF S3 nT2
          obtain ⟨S4, hS4⟩ : ∃ x, S3 ++ nT2 = x := ⟨_, rfl⟩
          rw [hS4] at hap3
          have HN2 : Hid (S2 ++ nM (q + 1) = S4) := by show _ = _; rw [HN.out, hS4]
          clear hS4 HN hsn
          go_wp2_with fail
          go_roundw
          case rel => exact ⟨q + 1, by omega, by simp, by rw [HN2.out], by simp⟩
          case measure => simp [intOf]; omega
        · obtain rfl : q = m := by omega
          have hml2 := nM_len q
          have hl3 : (S2 ++ nM q).length ≤ 300 := by rw [List.length_append]; omega
          have HSR3 : Hid (needSrc k j q = (S2 ++ nM q) ++ [103, 108, 121, 112, 104, 32, 122, 32, 57, 10]) := by show _ = _; rw [HSR2.out, List.append_assoc]
          generalize S2 ++ nM q = S3 at *
          have hap3 : (ByteArray.mk S3.toArray) ++ ⟨#[103, 108, 121, 112, 104, 32, 122, 32, 57, 10]⟩ = ⟨(S3 ++ [103, 108, 121, 112, 104, 32, 122, 32, 57, 10]).toArray⟩ := app_listF S3 [103, 108, 121, 112, 104, 32, 122, 32, 57, 10]
          rw [← HSR3.out] at hap3
          have hl4 : (needSrc k j q).length ≤ 1000000 := by rw [HSR3.out, List.length_append]; simp; omega
          have hfont := parseFont_ok W2 (needSrc k j q) hl4 HTB2.out (Nat.le_trans hnT hz2)
          have hneed := hall.out
          generalize parseL (needSrc k j q) = R at *
          generalize needSrc k j q = SRC at *
          have HF := Lib.hid hfont
          clear hfont HSR3 HSR2 hall
          go_wp2_with fail
          refine HF.out.mono ?_
          rintro e w3 ⟨hb3, hmt⟩
          have hb3' : Below w.heap.size w w3 := HB2.out.trans (hb3.mono HB2.out.size)
          have HB3 := Lib.hid hb3'
          have hz3 := hb3'.size
          cases R with
          | error x =>
            obtain ⟨xl, xe⟩ := x
            simp only at hmt
            subst hmt
            simp only [needOk, Bool.and_eq_true, beq_iff_eq] at hneed
            obtain ⟨hj0, hxl, hxe⟩ := hneed
            subst hj0 hxl hxe
            clear HF hb3 hb3'
            go_wp2_with fail
            go_ret
            exact ⟨rfl, HB3.out.alloc hz3 _⟩
          | ok f =>
            obtain ⟨fc, rfl, hfn⟩ := hmt
            simp only [needOk, Bool.and_eq_true, List.all_eq_true, List.mem_range, bne_iff_ne, ne_eq] at hneed
            obtain ⟨hj0, hch⟩ := hneed
            have HCH := Lib.hid hch
            have e0 : ((j : Int) == 0) = false := by simp; omega
            obtain ⟨A1, c1, A2, c2, A3, c3, A4, c4, A5, c5, A6, c6, A7, c7, A8, c8, rfl, -, s1, -, s3, -⟩ := hfn
            have S1' := Lib.hid s1
            have S3' := Lib.hid s3
            clear HF hb3 hb3' hch s1 s3
            go_wp2_with fail
            obtain ⟨w4, hw4⟩ : ∃ x, (w3.alloc (.cells #[.int .i64 f.unit, .slice A1 f.glyphs.length c1, .slice A2 f.chars.length c2, .slice A3 f.lookups.length c3, .slice A4 f.features.length c4, .slice A5 f.axes.length c5, .slice A6 f.regions.length c6, .slice A7 f.funcs.length c7, .slice A8 f.cvt.length c8] tFnt)) = x := ⟨_, rfl⟩
            rw [hw4]
            have hk4 : Bk w4 w3.heap.size tFnt #[.int .i64 f.unit, .slice A1 f.glyphs.length c1, .slice A2 f.chars.length c2, .slice A3 f.lookups.length c3, .slice A4 f.features.length c4, .slice A5 f.axes.length c5, .slice A6 f.regions.length c6, .slice A7 f.funcs.length c7, .slice A8 f.cvt.length c8] := hw4 ▸ Bk.new _ _ _
            have hb4 : Below w3.heap.size w3 w4 := hw4 ▸ (Below.refl _ _).alloc (Nat.le_refl _) _
            have HK4 := Lib.hid hk4
            have HB4 := Lib.hid hb4
            have hz4 := hb4.size
            have zk4 := hk4.lt
            clear hw4 hk4 hb4
            go_loopw [18] (fun i wr => ∃ q : Nat, q ≤ j ∧ i = .int .i64 q ∧ Below w4.heap.size w4 wr) (fun i _ => j - (intOf i).toNat)
            case atStart => exact ⟨0, Nat.zero_le _, rfl, Below.refl _ _⟩
            case round =>
              obtain ⟨q, hq, rfl, hbr⟩ := hrel
              have HBR := Lib.hid hbr
              have hzr := hbr.size
              have hbk := HK4.out.keep (hbr.block _ zk4)
              have f1 := hbk.cell 1
              have f3 := hbk.cell 3
              simp only [List.getElem?_toArray, List.getElem?_cons_succ, List.getElem?_cons_zero] at f1 f3
              have zb := hbk.lt
              have HB34 : Hid (Below w3.heap.size w3 wr) := HB4.out.trans (hbr.mono HB4.out.size)
              clear hbr hbk
              by_cases hlt : q < j
              · have hch := HCH.out q hlt
                by_cases h5 : k = 5
                · subst h5
                  simp only [if_true] at hch
                  cases hlq : f.lookups[q]? with
                  | none => rw [hlq] at hch; cases hch
                  | some lq =>
                    rw [hlq] at hch
                    simp only [beq_iff_eq] at hch
                    have hql := (List.getElem?_eq_some_iff.1 hlq).1
                    obtain ⟨b1, o1, x, A9, c9, rfl, hDb, hx, g0, g1, g2, -⟩ := S3'.out.lookup hql
                    have hxl : x = lq := by have := hx.out; rw [hlq] at this; injection this with this; exact this.symm
                    subst hxl
                    have hDlt : b1 < w3.heap.size := by obtain ⟨cs, tt, hk, -⟩ := hDb; exact hk.lt
                    have g2' := ((bcell HB34.out).1 _ _ hDlt).trans g2
                    have zD : b1 < wr.heap.size := Nat.lt_of_lt_of_le hDlt HB34.out.size
                    have e9 : ((q : Int) ≥ (f.lookups.length : Int)) = False := by simp; omega
                    have hqj : ((q : Int) == (j : Int) - 1) = (q == j - 1) := by
                      rw [Bool.eq_iff_iff]; simp; omega
                    have hrl : ((x.rules.length : Int) == 1) = (x.rules.length == 1) := by rw [Bool.eq_iff_iff]; simp; omega
                    clear hlq hx hDb g0 g1 g2
                    generalize (x.rules.length == 1) = r1 at *
                    generalize (q == j - 1) = r2 at *
                    subst hch
                    cases r1 with
                    | true =>
                      go_wp2_with fail
                      go_roundw
                      case rel => exact ⟨q + 1, by omega, by simp, HBR.out⟩
                      case measure => simp [intOf]; omega
                    | false =>
                      go_wp2_with fail
                      go_roundw
                      case rel => exact ⟨q + 1, by omega, by simp, HBR.out⟩
                      case measure => simp [intOf]; omega
                · simp only [h5, if_false] at hch
                  have e5 : ((k : Int) == 5) = false := by simp; omega
                  cases hlq : f.glyphs[q]? with
                  | none => rw [hlq] at hch; cases hch
                  | some gq =>
                    rw [hlq] at hch
                    simp only [Bool.and_eq_true, beq_iff_eq] at hch
                    obtain ⟨hsm, hch, hpt⟩ := hch
                    have hsm2 := of_decide_eq_true hsm
                    clear hsm
                    have hql := (List.getElem?_eq_some_iff.1 hlq).1
                    obtain ⟨b1, o1, x, B3, d3, B4, d4, B5, d5, B6, d6, B7, d7, B8, d8, rfl, hDb, hx, g0, g1, g2, g3, g4, g5, g6, g7, g8, -, -, -, hparts, -⟩ := S1'.out.glyph hql
                    have hxl : x = gq := by have := hx.out; rw [hlq] at this; injection this with this; exact this.symm
                    subst hxl
                    have hDlt : b1 < w3.heap.size := by obtain ⟨cs, tt, hk, -⟩ := hDb; exact hk.lt
                    have g0' := ((bcell HB34.out).1 _ _ hDlt).trans g0
                    have g1' := ((bcell HB34.out).1 _ _ hDlt).trans g1
                    have g2' := ((bcell HB34.out).1 _ _ hDlt).trans g2
                    have g3' := ((bcell HB34.out).1 _ _ hDlt).trans g3
                    have g4' := ((bcell HB34.out).1 _ _ hDlt).trans g4
                    have g5' := ((bcell HB34.out).1 _ _ hDlt).trans g5
                    have g6' := ((bcell HB34.out).1 _ _ hDlt).trans g6
                    have g7' := ((bcell HB34.out).1 _ _ hDlt).trans g7
                    have g8' := ((bcell HB34.out).1 _ _ hDlt).trans g8
                    have zD : b1 < wr.heap.size := Nat.lt_of_lt_of_le hDlt HB34.out.size
                    have hqj : ((q : Int) == (j : Int) - 1) = (q == j - 1) := by
                      rw [Bool.eq_iff_iff]; simp; omega
                    have hrl : ((x.ends.length : Int) + (x.parts.length : Int) + (x.anchors.length : Int) + (x.deltas.length : Int) + (x.hint.length : Int) == 1) = (gSum x == 1) := by
                      unfold gSum
                      rw [Bool.eq_iff_iff]; simp; omega
                    have HSM := Lib.hid hsm2
                    obtain ⟨y4, y5, y6, y7, y8⟩ : x.ends.length ≤ 100 ∧ x.parts.length ≤ 100 ∧ x.anchors.length ≤ 100 ∧ x.deltas.length ≤ 100 ∧ x.hint.length ≤ 100 := by unfold gSum at hsm2; omega
                    clear hsm2 hlq hx hDb g0 g1 g2 g3 g4 g5 g6 g7 g8
                    generalize hg1 : (gSum x == 1) = r1 at *
                    generalize (q == j - 1) = r2 at *
                    subst hch
                    have HG1 := Lib.hid hg1
                    clear hg1
                    cases r1 with
                    | false =>
                      go_wp2_with fail
                      go_roundw
                      case rel => exact ⟨q + 1, by omega, by simp, HBR.out.alloc (by omega) _⟩
                      case measure => simp [intOf]; omega
                    | true =>
                      by_cases h1 : k = 1
                      · subst h1
                        obtain ⟨p9, hp9, hpg⟩ : ∃ p9, x.parts = [p9] ∧ p9.glyph = (j : Int) := by
                          have hs1 : gSum x = 1 := by simpa using HG1.out
                          simp only [hs1, and_self, if_true, decide_true, Bool.and_self, true_and] at hpt
                          revert hpt
                          match x.parts with
                          | [p9] => intro h; exact ⟨p9, rfl, by simpa using h⟩
                          | [] => intro h; cases h
                          | _ :: _ :: _ => intro h; cases h
                        obtain ⟨b7, o7, z7, rfl, hDb7, hz7, m0, -⟩ := hparts.part (k := 0) (by rw [hp9]; simp)
                        have hz9 : z7 = p9 := by have := hz7.out; rw [hp9] at this; simpa using this.symm
                        subst hz9
                        simp only [Nat.zero_mul, Nat.add_zero] at m0
                        have hDlt7 : b7 < w3.heap.size := by obtain ⟨cs, tt, hk, -⟩ := hDb7; exact hk.lt
                        have m0' := ((bcell HB34.out).1 _ _ hDlt7).trans m0
                        rw [hpg] at m0'
                        have zD7 : b7 < wr.heap.size := Nat.lt_of_lt_of_le hDlt7 HB34.out.size
                        have hp0 : 0 < x.parts.length := by rw [hp9]; simp
                        clear hpt hp9 hpg hz7 hDb7 m0 hparts
                        go_wp2_with fail
                        go_roundw
                        case rel => exact ⟨q + 1, by omega, by simp, HBR.out.alloc (by omega) _⟩
                        case measure => simp [intOf]; omega
                      · have e1 : ((k : Int) == 1) = false := by simp; omega
                        go_wp2_with fail
                        go_roundw
                        case rel => exact ⟨q + 1, by omega, by simp, HBR.out.alloc (by omega) _⟩
                        case measure => simp [intOf]; omega
              · obtain rfl : q = j := by omega
                go_wp2_with fail
                go_ret
                exact ⟨rfl, HB3.out.trans (HB34.out.mono hz3)⟩
end Go.Proofs.YtkijckccfookeaaGreatDoor
/- ParseNeeds at any three bytes. -/
namespace Go.Proofs.YtkijckccfookeaaGreatDoor
open Go.RowKit

theorem parseNeeds_row (w : World) (a : Int) (ha : (Lit.int .u8 a).wf = true) (b : Int) (hb : (Lit.int .u8 b).wf = true) (c : Int) (hc : (Lit.int .u8 c).wf = true) (hTb : PTabs w) (hnT : nT ≤ w.heap.size) : Calls Tryz.prog 12 #[.int .u8 a, .int .u8 b, .int .u8 c] w fun e w' => e = .returned (.bool true) ∧ Below w.heap.size w w' := by
  obtain ⟨a1, a2⟩ := bounds_u8 ha
  obtain ⟨b1, b2⟩ := bounds_u8 hb
  obtain ⟨c1, c2⟩ := bounds_u8 hc
  have h := parseNeeds_ok w a.toNat b.toNat c.toNat (by omega) (by omega) (by omega) hTb hnT
  rw [Int.toNat_of_nonneg a1, Int.toNat_of_nonneg b1, Int.toNat_of_nonneg c1] at h
  exact h
end Go.Proofs.YtkijckccfookeaaGreatDoor
