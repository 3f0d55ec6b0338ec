/- The contract of fleuronref03.ring. -/
import Derived.Test.YtfpdbdbgemolgaaRefSmall
import Derived.Test.YtfpdbdbgemolgaaLines
import Derived.Deep.RegionHeld3
namespace Go.Proofs.Ytfpdbdbgemolgaa
open Go.RowKit

theorem info83 : (Try.prog.info? 83).map (fun i => (i.zero, i.size, i.bytes)) = some (some (.agg #[.int .i64 0, .int .i64 0, .bool false]), 3, 24) := by kernel_rfl
theorem rot_get (l : List P3) (f q : Nat) (hf : f < l.length) (hq : q < l.length) : (l.drop f ++ l.take f)[q]? = l[(f + q) % l.length]? := by
  by_cases h : q < l.length - f
  · rw [List.getElem?_append_left (by simp; omega), List.getElem?_drop, Nat.mod_eq_of_lt (by omega)]
  · rw [List.getElem?_append_right (by simp; omega), List.getElem?_take, if_pos (by simp; omega), List.length_drop]
    have : (f + q) % l.length = f + q - l.length := by rw [Nat.mod_eq_sub_mod (by omega), Nat.mod_eq_of_lt (by omega)]
    rw [this]; congr 1; omega
theorem take_snoc3 (l : List P3) (q : Nat) (p : P3) (h : l[q]? = some p) : l.take (q + 1) = l.take q ++ [p] := by
  obtain ⟨hk, hg⟩ := List.getElem?_eq_some_iff.1 h
  rw [List.take_succ_eq_append_getElem hk, hg]

set_option maxRecDepth 100000 in
set_option maxHeartbeats 4000000 in
theorem refRing_ok (w : World) (B : Nat) (A O : Option Addr) (n c co : Nat) (pts : List P2) (on : List Bool) (hA : Rd w B A n 2 (c2s pts)) (hO : Rd w B O n 1 (cBs on)) (hB : B ≤ w.heap.size) (hn0 : 0 < n) (hn : n ≤ 40000) :
    Calls Try.prog 51 #[.slice A n c, .slice O n co] w fun e w' => ∃ v, e = .returned v ∧ w'.ownsRow w.heap.size 83 3 v (ringL (spz pts on)).length (c3s (ringL (spz pts on))) ∧ Below w.heap.size w w' := by
  obtain ⟨i0, hi0, hz0, hz1, hz2⟩ := info_parts info83
  have hlen := Lib.hid (spz_length pts on n hA.len2 hO.lenB)
  have hget : ∀ (k : Nat) (x y : Int) (z : Bool), pts[k]? = some (x, y) → on[k]? = some z → (spz pts on)[k]? = some (x, y, z) := fun k x y z h1 h2 => by simp [spz, List.getElem?_zipWith, h1, h2]
  have Hget := Lib.hid hget
  clear hget
  generalize spz pts on = ct at *
  obtain ⟨b, o, x0, y0, rfl, hbB, -, -, -⟩ := hA.at2 hn0
  obtain ⟨bb, oo, z0, rfl, hbbB, -, -⟩ := hO.atB hn0
  have hP : (w.alloc (.cells #[] 83)).ownsRow w.heap.size 83 3 (.slice (some ⟨w.heap.size, 0, none⟩) 0 0) 0 [] := World.ownsRow_made w #[] 0 (Nat.le_refl _) (by simp [maxLen]) rfl
  go_enter Try.func51, Try.ntmps51
  go_wp2_with fail
  go_loopw [6, 7, 8] (fun v f i wr => ∃ k : Nat, k ≤ n ∧ i = .int .i64 k ∧ f = .int .i64 (firstTo ct k) ∧ wr.ownsRow w.heap.size 83 3 v (ringTo ct k).length (c3s (ringTo ct k)) ∧ Below w.heap.size w wr) (fun _ _ i _ => n - (intOf i).toNat)
  case atStart => exact ⟨0, by omega, rfl, rfl, hP, (Below.refl _ _).alloc (Nat.le_refl _) _⟩
  case round =>
    obtain ⟨k, hk, rfl, rfl, how, hbl⟩ := hrel
    obtain ⟨A1, c1, rfl, -⟩ := Rd.of_own how
    have hlk := ringTo_len ct k
    have hfb := firstTo_bd ct k (by rw [hlen.out]; exact hk)
    have hfs : Hid (∀ on, ct[k]?.map (·.2.2) = some on → firstTo ct (k + 1) = if on = true ∧ firstTo ct k < 0 then ((ringTo ct k).length : Int) else firstTo ct k) := by
      intro on h
      rw [firstTo, h]
      simp only [Option.some.injEq]
    have hrs := Lib.hid (ringTo_succ ct k)
    by_cases hlt : k < n
    · have hAr := hA.below hbl hB
      have hOr := hO.below hbl hB
      obtain ⟨b1, o1, xa, ya, e1, -, hpa, qa1, qa2⟩ := hAr.at2 hlt
      simp only [Option.some.injEq, Addr.mk.injEq, and_true] at e1
      obtain ⟨rfl, rfl⟩ := e1
      obtain ⟨b1, o1, za, e1, -, hpz, qa3⟩ := hOr.atB hlt
      simp only [Option.some.injEq, Addr.mk.injEq, and_true] at e1
      obtain ⟨rfl, rfl⟩ := e1
      obtain ⟨j, hj⟩ : ∃ j : Nat, (k + 1) % n = j := ⟨_, rfl⟩
      have hjl : j < n := by rw [← hj]; exact Nat.mod_lt _ (by omega)
      have hjI : ((k : Int) + 1) % (n : Int) = (j : Int) := by rw [← hj]; simp
      have Hj := Lib.hid hj
      clear hj
      obtain ⟨b1, o1, xn, yn, e1, -, hpn, qn1, qn2⟩ := hAr.at2 hjl
      simp only [Option.some.injEq, Addr.mk.injEq, and_true] at e1
      obtain ⟨rfl, rfl⟩ := e1
      obtain ⟨b1, o1, zn, e1, -, hpzn, qn3⟩ := hOr.atB hjl
      simp only [Option.some.injEq, Addr.mk.injEq, and_true] at e1
      obtain ⟨rfl, rfl⟩ := e1
      have hszr := hbl.size
      have hbr : b < wr.heap.size := by omega
      have hbbr : bb < wr.heap.size := by omega
      have hat : Hid (ringAt ct k = if za = false ∧ zn = false then [(xa, ya, za), ((btw (xa, ya) (xn, yn)).1, (btw (xa, ya) (xn, yn)).2, true)] else [(xa, ya, za)]) := by
        show _ = _
        rw [ringAt, hlen.out, Hj.out, Hget.out _ _ _ _ hpa.out hpz.out, Hget.out _ _ _ _ hpn.out hpzn.out]
        rfl
      have hfs2 := Lib.hid (hfs.out za (by rw [Hget.out _ _ _ _ hpa.out hpz.out]; rfl))
      clear hfs
      have hring : Hid (ringTo ct (k + 1) = ringTo ct k ++ ringAt ct k) := hrs
      clear hrs
      generalize hF : firstTo ct k = F at *
      generalize ringTo ct k = rt at *
      clear hF hAr hOr
      have hneb : Hid (some b ≠ (Value.slice A1 rt.length c1).ownBlock) := fun e => by have := (how.lt b e.symm).1; omega
      have hnebb : Hid (some bb ≠ (Value.slice A1 rt.length c1).ownBlock) := fun e => by have := (how.lt bb e.symm).1; omega
      have zk1 : (k : Int) < (n : Int) := by omega
      have zk0 : (0 : Int) ≤ (k : Int) := by omega
      have zj1 : (j : Int) < (n : Int) := by omega
      have zj0 : (0 : Int) ≤ (j : Int) := by omega
      cases za with
      | true =>
        by_cases hneg : F < 0
        · have hdd : decide (F < 0) = true := by simp [hneg]
          go_wp2_with fail
          go_region_held3 (fun w' => w'.cell? ⟨b, o + k * 2, none⟩ = some (.int .i64 xa) ∧ w'.cell? ⟨b, o + k * 2 + 1, none⟩ = some (.int .i64 ya) ∧ w'.cell? ⟨bb, oo + k, none⟩ = some (.bool true))
              (first
                | go_keep
                | (go_split_ands
                   refine ⟨?_, ?_, ?_⟩
                   · (rw [hg1.cell_far _ (by simp; omega) hneb.out]; assumption)
                   · (rw [hg1.cell_far _ (by simp; omega) hneb.out]; assumption)
                   · (rw [hg1.cell_far _ (by simp; omega) hnebb.out]; assumption))) (first | (refine step_append_any _ (by rfl) (.tmp 30) (.tmp 40) 80 (by rfl) w.heap.size 83 i0 _ 3 24 Try.underlying80 hi0 hz0 hz1 hz2 rfl (by decide) (.slice A1 rt.length c1) rt.length (c3s rt) (by go_simp) (by exact (how.alloc _).drew) (wr.heap.size + 1) (some ⟨wr.heap.size, 0, none⟩) 1 1 [.int .i64 xa, .int .i64 ya, .bool true] (by go_simp) (by exact Rd.drew (Rd.newAt _ _ (by simp) #[.int .i64 xa, .int .i64 ya, .bool true] 83 1 3 rfl)) (by simp [Value.oneCell']) (by simp only [maxLen]; omega) (by omega) (by simp; omega) ?_; intro v1 w1 hown1 hg1 _))
          all_goals
            have hbl1 : Below w.heap.size w w1 := (hbl.alloc hszr _).drew.grown hg1 (by simp; omega) (fun g hg => (how.lt g hg).1)
            have ra1 : w1.cell? ⟨b, o + k * 2, none⟩ = some (.int .i64 xa) := (hbl1.cell (p := ⟨b, o + k * 2, none⟩) (by simp; omega)).trans ((hbl.cell (p := ⟨b, o + k * 2, none⟩) (by simp; omega)).symm.trans qa1)
            have ra2 : w1.cell? ⟨b, o + k * 2 + 1, none⟩ = some (.int .i64 ya) := (hbl1.cell (p := ⟨b, o + k * 2 + 1, none⟩) (by simp; omega)).trans ((hbl.cell (p := ⟨b, o + k * 2 + 1, none⟩) (by simp; omega)).symm.trans qa2)
            have ra3 : w1.cell? ⟨bb, oo + k, none⟩ = some (.bool true) := (hbl1.cell (p := ⟨bb, oo + k, none⟩) (by simp; omega)).trans ((hbl.cell (p := ⟨bb, oo + k, none⟩) (by simp; omega)).symm.trans qa3)
            have r1 : w1.cell? ⟨b, o + j * 2, none⟩ = some (.int .i64 xn) := (hbl1.cell (p := ⟨b, o + j * 2, none⟩) (by simp; omega)).trans ((hbl.cell (p := ⟨b, o + j * 2, none⟩) (by simp; omega)).symm.trans qn1)
            have r2 : w1.cell? ⟨b, o + j * 2 + 1, none⟩ = some (.int .i64 yn) := (hbl1.cell (p := ⟨b, o + j * 2 + 1, none⟩) (by simp; omega)).trans ((hbl.cell (p := ⟨b, o + j * 2 + 1, none⟩) (by simp; omega)).symm.trans qn2)
            have r3 : w1.cell? ⟨bb, oo + j, none⟩ = some (.bool zn) := (hbl1.cell (p := ⟨bb, oo + j, none⟩) (by simp; omega)).trans ((hbl.cell (p := ⟨bb, oo + j, none⟩) (by simp; omega)).symm.trans qn3)
            have hs1 : wr.heap.size + 1 ≤ w1.heap.size := (by have := hg1.size; simpa using this)
            have hl1 : b < w1.heap.size := (by omega)
            have hl2 : bb < w1.heap.size := (by omega)
            obtain ⟨A2, c2', rfl, -⟩ := Rd.of_own hown1
            clear qa1 qa2 qa3 qn1 qn2 qn3
            go_wp2_with fail
            go_roundw
            case rel =>
              refine ⟨k + 1, by omega, by go_num, ?_, ?_, hbl1⟩
              · rw [hfs2.out, if_pos (by simp [hneg])]
              · rw [hring.out, hat.out, if_neg (by simp), c3s_append]
                simpa [c3s, c3] using hown1
            case measure => simp [intOf]; omega
        · have hdd : decide (F < 0) = false := by simp; omega
          go_wp2_with fail
          go_region_held3 (fun w' => w'.cell? ⟨b, o + k * 2, none⟩ = some (.int .i64 xa) ∧ w'.cell? ⟨b, o + k * 2 + 1, none⟩ = some (.int .i64 ya) ∧ w'.cell? ⟨bb, oo + k, none⟩ = some (.bool true))
              (first
                | go_keep
                | (go_split_ands
                   refine ⟨?_, ?_, ?_⟩
                   · (rw [hg1.cell_far _ (by simp; omega) hneb.out]; assumption)
                   · (rw [hg1.cell_far _ (by simp; omega) hneb.out]; assumption)
                   · (rw [hg1.cell_far _ (by simp; omega) hnebb.out]; assumption))) (first | (refine step_append_any _ (by rfl) (.tmp 30) (.tmp 40) 80 (by rfl) w.heap.size 83 i0 _ 3 24 Try.underlying80 hi0 hz0 hz1 hz2 rfl (by decide) (.slice A1 rt.length c1) rt.length (c3s rt) (by go_simp) (by exact (how.alloc _).drew) (wr.heap.size + 1) (some ⟨wr.heap.size, 0, none⟩) 1 1 [.int .i64 xa, .int .i64 ya, .bool true] (by go_simp) (by exact Rd.drew (Rd.newAt _ _ (by simp) #[.int .i64 xa, .int .i64 ya, .bool true] 83 1 3 rfl)) (by simp [Value.oneCell']) (by simp only [maxLen]; omega) (by omega) (by simp; omega) ?_; intro v1 w1 hown1 hg1 _))
          all_goals
            have hbl1 : Below w.heap.size w w1 := (hbl.alloc hszr _).drew.grown hg1 (by simp; omega) (fun g hg => (how.lt g hg).1)
            have ra1 : w1.cell? ⟨b, o + k * 2, none⟩ = some (.int .i64 xa) := (hbl1.cell (p := ⟨b, o + k * 2, none⟩) (by simp; omega)).trans ((hbl.cell (p := ⟨b, o + k * 2, none⟩) (by simp; omega)).symm.trans qa1)
            have ra2 : w1.cell? ⟨b, o + k * 2 + 1, none⟩ = some (.int .i64 ya) := (hbl1.cell (p := ⟨b, o + k * 2 + 1, none⟩) (by simp; omega)).trans ((hbl.cell (p := ⟨b, o + k * 2 + 1, none⟩) (by simp; omega)).symm.trans qa2)
            have ra3 : w1.cell? ⟨bb, oo + k, none⟩ = some (.bool true) := (hbl1.cell (p := ⟨bb, oo + k, none⟩) (by simp; omega)).trans ((hbl.cell (p := ⟨bb, oo + k, none⟩) (by simp; omega)).symm.trans qa3)
            have r1 : w1.cell? ⟨b, o + j * 2, none⟩ = some (.int .i64 xn) := (hbl1.cell (p := ⟨b, o + j * 2, none⟩) (by simp; omega)).trans ((hbl.cell (p := ⟨b, o + j * 2, none⟩) (by simp; omega)).symm.trans qn1)
            have r2 : w1.cell? ⟨b, o + j * 2 + 1, none⟩ = some (.int .i64 yn) := (hbl1.cell (p := ⟨b, o + j * 2 + 1, none⟩) (by simp; omega)).trans ((hbl.cell (p := ⟨b, o + j * 2 + 1, none⟩) (by simp; omega)).symm.trans qn2)
            have r3 : w1.cell? ⟨bb, oo + j, none⟩ = some (.bool zn) := (hbl1.cell (p := ⟨bb, oo + j, none⟩) (by simp; omega)).trans ((hbl.cell (p := ⟨bb, oo + j, none⟩) (by simp; omega)).symm.trans qn3)
            have hs1 : wr.heap.size + 1 ≤ w1.heap.size := (by have := hg1.size; simpa using this)
            have hl1 : b < w1.heap.size := (by omega)
            have hl2 : bb < w1.heap.size := (by omega)
            obtain ⟨A2, c2', rfl, -⟩ := Rd.of_own hown1
            clear qa1 qa2 qa3 qn1 qn2 qn3
            go_wp2_with fail
            go_roundw
            case rel =>
              refine ⟨k + 1, by omega, by go_num, ?_, ?_, hbl1⟩
              · rw [hfs2.out, if_neg (by simp; omega)]
              · rw [hring.out, hat.out, if_neg (by simp), c3s_append]
                simpa [c3s, c3] using hown1
            case measure => simp [intOf]; omega
      | false =>
        cases zn with
        | true =>
          go_wp2_with fail
          go_region_held3 (fun w' => w'.cell? ⟨b, o + k * 2, none⟩ = some (.int .i64 xa) ∧ w'.cell? ⟨b, o + k * 2 + 1, none⟩ = some (.int .i64 ya) ∧ w'.cell? ⟨bb, oo + k, none⟩ = some (.bool false))
              (first
                | go_keep
                | (go_split_ands
                   refine ⟨?_, ?_, ?_⟩
                   · (rw [hg1.cell_far _ (by simp; omega) hneb.out]; assumption)
                   · (rw [hg1.cell_far _ (by simp; omega) hneb.out]; assumption)
                   · (rw [hg1.cell_far _ (by simp; omega) hnebb.out]; assumption))) (first | (refine step_append_any _ (by rfl) (.tmp 30) (.tmp 40) 80 (by rfl) w.heap.size 83 i0 _ 3 24 Try.underlying80 hi0 hz0 hz1 hz2 rfl (by decide) (.slice A1 rt.length c1) rt.length (c3s rt) (by go_simp) (by exact (how.alloc _).drew) (wr.heap.size + 1) (some ⟨wr.heap.size, 0, none⟩) 1 1 [.int .i64 xa, .int .i64 ya, .bool false] (by go_simp) (by exact Rd.drew (Rd.newAt _ _ (by simp) #[.int .i64 xa, .int .i64 ya, .bool false] 83 1 3 rfl)) (by simp [Value.oneCell']) (by simp only [maxLen]; omega) (by omega) (by simp; omega) ?_; intro v1 w1 hown1 hg1 _))
          all_goals
            have hbl1 : Below w.heap.size w w1 := (hbl.alloc hszr _).drew.grown hg1 (by simp; omega) (fun g hg => (how.lt g hg).1)
            have ra1 : w1.cell? ⟨b, o + k * 2, none⟩ = some (.int .i64 xa) := (hbl1.cell (p := ⟨b, o + k * 2, none⟩) (by simp; omega)).trans ((hbl.cell (p := ⟨b, o + k * 2, none⟩) (by simp; omega)).symm.trans qa1)
            have ra2 : w1.cell? ⟨b, o + k * 2 + 1, none⟩ = some (.int .i64 ya) := (hbl1.cell (p := ⟨b, o + k * 2 + 1, none⟩) (by simp; omega)).trans ((hbl.cell (p := ⟨b, o + k * 2 + 1, none⟩) (by simp; omega)).symm.trans qa2)
            have ra3 : w1.cell? ⟨bb, oo + k, none⟩ = some (.bool false) := (hbl1.cell (p := ⟨bb, oo + k, none⟩) (by simp; omega)).trans ((hbl.cell (p := ⟨bb, oo + k, none⟩) (by simp; omega)).symm.trans qa3)
            have r1 : w1.cell? ⟨b, o + j * 2, none⟩ = some (.int .i64 xn) := (hbl1.cell (p := ⟨b, o + j * 2, none⟩) (by simp; omega)).trans ((hbl.cell (p := ⟨b, o + j * 2, none⟩) (by simp; omega)).symm.trans qn1)
            have r2 : w1.cell? ⟨b, o + j * 2 + 1, none⟩ = some (.int .i64 yn) := (hbl1.cell (p := ⟨b, o + j * 2 + 1, none⟩) (by simp; omega)).trans ((hbl.cell (p := ⟨b, o + j * 2 + 1, none⟩) (by simp; omega)).symm.trans qn2)
            have r3 : w1.cell? ⟨bb, oo + j, none⟩ = some (.bool true) := (hbl1.cell (p := ⟨bb, oo + j, none⟩) (by simp; omega)).trans ((hbl.cell (p := ⟨bb, oo + j, none⟩) (by simp; omega)).symm.trans qn3)
            have hs1 : wr.heap.size + 1 ≤ w1.heap.size := (by have := hg1.size; simpa using this)
            have hl1 : b < w1.heap.size := (by omega)
            have hl2 : bb < w1.heap.size := (by omega)
            obtain ⟨A2, c2', rfl, -⟩ := Rd.of_own hown1
            clear qa1 qa2 qa3 qn1 qn2 qn3
            go_wp2_with fail
            go_roundw
            case rel =>
              refine ⟨k + 1, by omega, by go_num, ?_, ?_, hbl1⟩
              · rw [hfs2.out, if_neg (by simp)]
              · rw [hring.out, hat.out, if_neg (by simp), c3s_append]
                simpa [c3s, c3] using hown1
            case measure => simp [intOf]; omega
        | false =>
          go_wp2_with fail
          go_region_held3 (fun w' => w'.cell? ⟨b, o + k * 2, none⟩ = some (.int .i64 xa) ∧ w'.cell? ⟨b, o + k * 2 + 1, none⟩ = some (.int .i64 ya) ∧ w'.cell? ⟨bb, oo + k, none⟩ = some (.bool false))
              (first
                | go_keep
                | (go_split_ands
                   refine ⟨?_, ?_, ?_⟩
                   · (rw [hg1.cell_far _ (by simp; omega) hneb.out]; assumption)
                   · (rw [hg1.cell_far _ (by simp; omega) hneb.out]; assumption)
                   · (rw [hg1.cell_far _ (by simp; omega) hnebb.out]; assumption))) (first | (refine step_append_any _ (by rfl) (.tmp 30) (.tmp 40) 80 (by rfl) w.heap.size 83 i0 _ 3 24 Try.underlying80 hi0 hz0 hz1 hz2 rfl (by decide) (.slice A1 rt.length c1) rt.length (c3s rt) (by go_simp) (by exact (how.alloc _).drew) (wr.heap.size + 1) (some ⟨wr.heap.size, 0, none⟩) 1 1 [.int .i64 xa, .int .i64 ya, .bool false] (by go_simp) (by exact Rd.drew (Rd.newAt _ _ (by simp) #[.int .i64 xa, .int .i64 ya, .bool false] 83 1 3 rfl)) (by simp [Value.oneCell']) (by simp only [maxLen]; omega) (by omega) (by simp; omega) ?_; intro v1 w1 hown1 hg1 _))
          all_goals
            have hbl1 : Below w.heap.size w w1 := (hbl.alloc hszr _).drew.grown hg1 (by simp; omega) (fun g hg => (how.lt g hg).1)
            have ra1 : w1.cell? ⟨b, o + k * 2, none⟩ = some (.int .i64 xa) := (hbl1.cell (p := ⟨b, o + k * 2, none⟩) (by simp; omega)).trans ((hbl.cell (p := ⟨b, o + k * 2, none⟩) (by simp; omega)).symm.trans qa1)
            have ra2 : w1.cell? ⟨b, o + k * 2 + 1, none⟩ = some (.int .i64 ya) := (hbl1.cell (p := ⟨b, o + k * 2 + 1, none⟩) (by simp; omega)).trans ((hbl.cell (p := ⟨b, o + k * 2 + 1, none⟩) (by simp; omega)).symm.trans qa2)
            have ra3 : w1.cell? ⟨bb, oo + k, none⟩ = some (.bool false) := (hbl1.cell (p := ⟨bb, oo + k, none⟩) (by simp; omega)).trans ((hbl.cell (p := ⟨bb, oo + k, none⟩) (by simp; omega)).symm.trans qa3)
            have r1 : w1.cell? ⟨b, o + j * 2, none⟩ = some (.int .i64 xn) := (hbl1.cell (p := ⟨b, o + j * 2, none⟩) (by simp; omega)).trans ((hbl.cell (p := ⟨b, o + j * 2, none⟩) (by simp; omega)).symm.trans qn1)
            have r2 : w1.cell? ⟨b, o + j * 2 + 1, none⟩ = some (.int .i64 yn) := (hbl1.cell (p := ⟨b, o + j * 2 + 1, none⟩) (by simp; omega)).trans ((hbl.cell (p := ⟨b, o + j * 2 + 1, none⟩) (by simp; omega)).symm.trans qn2)
            have r3 : w1.cell? ⟨bb, oo + j, none⟩ = some (.bool false) := (hbl1.cell (p := ⟨bb, oo + j, none⟩) (by simp; omega)).trans ((hbl.cell (p := ⟨bb, oo + j, none⟩) (by simp; omega)).symm.trans qn3)
            have hs1 : wr.heap.size + 1 ≤ w1.heap.size := (by have := hg1.size; simpa using this)
            have hl1 : b < w1.heap.size := (by omega)
            have hl2 : bb < w1.heap.size := (by omega)
            obtain ⟨A2, c2', rfl, -⟩ := Rd.of_own hown1
            clear qa1 qa2 qa3 qn1 qn2 qn3
            go_wp2_with fail
            have hneb2 : Hid (some b ≠ (Value.slice A2 (rt.length + 1) c2').ownBlock) := fun e => by have := (hown1.lt b e.symm).1; omega
            go_region_held3 (fun w' => w'.cell? ⟨b, o + k * 2, none⟩ = some (.int .i64 xa) ∧ w'.cell? ⟨b, o + j * 2, none⟩ = some (.int .i64 xn) ∧ w'.cell? ⟨b, o + k * 2 + 1, none⟩ = some (.int .i64 ya) ∧ w'.cell? ⟨b, o + j * 2 + 1, none⟩ = some (.int .i64 yn))
              (first
                | go_keep
                | (go_split_ands
                   refine ⟨?_, ?_, ?_, ?_⟩
                   · (rw [hg2.cell_far _ (by simp; omega) hneb2.out]; assumption)
                   · (rw [hg2.cell_far _ (by simp; omega) hneb2.out]; assumption)
                   · (rw [hg2.cell_far _ (by simp; omega) hneb2.out]; assumption)
                   · (rw [hg2.cell_far _ (by simp; omega) hneb2.out]; assumption)))
              (first
                | (go_at_call 54; refine (half_w _ _).mono ?_; rintro e w' ⟨rfl, rfl⟩)
                | (refine step_append_any _ (by rfl) (.tmp 58) (.tmp 85) 80 (by rfl) w.heap.size 83 i0 _ 3 24 Try.underlying80 hi0 hz0 hz1 hz2 rfl (by decide) (.slice A2 (rt.length + 1) c2') (rt.length + 1) _ (by go_simp) (by exact (hown1.alloc _).drew) (w1.heap.size + 1) (some ⟨w1.heap.size, 0, none⟩) 1 1 [.int .i64 (btw (xa, ya) (xn, yn)).1, .int .i64 (btw (xa, ya) (xn, yn)).2, .bool true] (by go_simp) (by exact Rd.drew (Rd.newAt _ _ (by simp) #[.int .i64 (btw (xa, ya) (xn, yn)).1, .int .i64 (btw (xa, ya) (xn, yn)).2, .bool true] 83 1 3 rfl)) (by simp [Value.oneCell']) (by simp only [maxLen]; omega) (by omega) (by simp; omega) ?_; intro v2 w2 hown2 hg2 _))
            all_goals go_wp2_with fail
            all_goals
              go_roundw
              case rel =>
                refine ⟨k + 1, by omega, by go_num, ?_, ?_, ?_⟩
                · rw [hfs2.out, if_neg (by simp)]
                · rw [hring.out, hat.out, if_pos (by simp), c3s_append]
                  simpa [c3s, c3] using hown2
                · exact (hbl1.alloc (by omega) _).drew.grown hg2 (by simp; omega) (fun g hg => (hown1.lt g hg).1)
              case measure => simp [intOf]; omega
    · have hkn : k = ct.length := by rw [hlen.out]; omega
      have hge := ringTo_ge ct k (by omega)
      have hSf : Hid (ringS ct = if firstTo ct k < 0 then (ringTo ct k).length - 1 else (firstTo ct k).toNat) := by rw [hkn]; rfl
      have hRL : Hid (ringL ct = (ringTo ct k).drop (ringS ct) ++ (ringTo ct k).take (ringS ct)) := by rw [hkn]; rfl
      have hpos : 0 < (ringTo ct k).length := by omega
      clear hkn hfs hrs
      generalize firstTo ct k = F at *
      generalize ringTo ct k = rt at *
      generalize ringS ct = fS at *
      obtain ⟨wo, rfl⟩ : ∃ wo : World, wo = wr := ⟨_, rfl⟩
      have hcase : ∃ f : Nat, f < rt.length ∧ Hid (fS = f) ∧ ((F < 0 ∧ Hid ((rt.length : Int) - 1 = f)) ∨ (¬ F < 0 ∧ F = (f : Int))) := by
        by_cases hneg : F < 0
        · refine ⟨rt.length - 1, by omega, ?_, .inl ⟨hneg, by show _ = _; omega⟩⟩
          have := hSf.out
          rw [if_pos hneg] at this
          exact this
        · refine ⟨F.toNat, by omega, ?_, .inr ⟨hneg, by omega⟩⟩
          have := hSf.out
          rw [if_neg hneg] at this
          exact this
      obtain ⟨f, hfN, hfS, hc⟩ := hcase
      have hRL2 : Hid (ringL ct = rt.drop f ++ rt.take f) := by rw [← hfS.out]; exact hRL
      obtain ⟨Av, cv, hv2, hrd⟩ := Rd.of_own how
      simp only [Value.slice.injEq, true_and] at hv2
      obtain ⟨rfl, rfl⟩ := hv2
      have hswo := hbl.size
      generalize hN : rt.length = N at *
      have HN := Lib.hid hN
      clear hN
      have hNI : (0 : Int) < (N : Int) := by omega
      have hP2 : (wo.alloc (.cells #[] 83)).ownsRow wo.heap.size 83 3 (.slice (some ⟨wo.heap.size, 0, none⟩) 0 0) 0 [] := World.ownsRow_made wo #[] 0 (Nat.le_refl _) (by simp [maxLen]) rfl
      have hfI : (0 : Int) ≤ (f : Int) := by omega
      have hrot : ∀ (q : Nat) (p : P3), q < N → rt[(f + q) % N]? = some p → (rt.drop f ++ rt.take f).take (q + 1) = (rt.drop f ++ rt.take f).take q ++ [p] := fun q p hq h => take_snoc3 _ _ _ (by rw [rot_get _ _ _ (by rw [HN.out]; exact hfN) (by rw [HN.out]; exact hq), HN.out]; exact h)
      have Hrot := Lib.hid hrot
      have hrl : Hid ((rt.drop f ++ rt.take f).length = N) := by
        show _ = _
        have := HN.out
        simp; omega
      clear hrot
      generalize rt.drop f ++ rt.take f = rr at *
      rcases hc with ⟨hneg, hf⟩ | ⟨hneg, rfl⟩
      · have hdd : decide (F < 0) = true := by simp [hneg]
        have hf' : (N : Int) - 1 = (f : Int) := hf.out
        go_wp2_with fail
        clear hf'
        go_loopw [10, 11] (fun v i ws => ∃ q : Nat, q ≤ N ∧ i = .int .i64 q ∧ ws.ownsRow wo.heap.size 83 3 v q (c3s (rr.take q)) ∧ Below wo.heap.size wo ws) (fun _ i _ => N - (intOf i).toNat)
        case atStart => exact ⟨0, by omega, rfl, hP2, (Below.refl _ _).alloc (Nat.le_refl _) _⟩
        case round =>
          obtain ⟨q, hq, rfl, hoq, hbq⟩ := hrel
          obtain ⟨A3, c3', rfl, -⟩ := Rd.of_own hoq
          have hszq := hbq.size
          by_cases hltq : q < N
          · obtain ⟨j, hj⟩ : ∃ j : Nat, (f + q) % N = j := ⟨_, rfl⟩
            have hjl : j < N := by rw [← hj]; exact Nat.mod_lt _ (by omega)
            have hjI : ((f : Int) + (q : Int)) % (N : Int) = (j : Int) := by rw [← hj]; simp
            have Hj := Lib.hid hj
            clear hj
            obtain ⟨b1, o1, xa, ya, za, rfl, hb1, hpa, qa1, qa2, qa3⟩ := (hrd.below hbq (Nat.le_refl _)).at3 hjl
            have hsn := Lib.hid (Hrot.out q _ hltq (by rw [Hj.out]; exact hpa.out))
            have hb1q : b1 < wr.heap.size := by omega
            go_wp2_with (at_builtin; refine wpList_append_any _ rfl (.tmp 99) (.tmp 109) 80 rfl wo.heap.size 83 i0 _ 3 24 Try.underlying80 hi0 hz0 hz1 hz2 rfl (by decide) (.slice A3 q c3') q (c3s (rr.take q)) rfl (hoq.alloc _) (wr.heap.size + 1) (some ⟨wr.heap.size, 0, none⟩) 1 1 [.int .i64 xa, .int .i64 ya, .bool za] rfl (by exact Rd.newAt _ _ (by simp) #[.int .i64 xa, .int .i64 ya, .bool za] 83 1 3 rfl) (by simp [Value.oneCell']) (by simp only [maxLen]; omega) (by omega) (by simp; omega) ?_; intro v1 w1 hown1 hg1 _)
            go_roundw
            case rel =>
              refine ⟨q + 1, by omega, by go_num, ?_, (hbq.alloc hszq _).grown hg1 (by simp; omega) (fun g hg => (hoq.lt g hg).1)⟩
              rw [hsn.out, c3s_append]
              simpa [c3s, c3] using hown1
            case measure => simp [intOf]; omega
          · go_wp2_with fail
            go_ret
            refine ⟨_, rfl, ?_, hbl.trans (hbq.mono hswo)⟩
            rw [hRL2.out, hrl.out]
            obtain rfl : q = N := by omega
            rw [List.take_of_length_le (by rw [hrl.out]; omega)] at hoq
            exact ownsRow_base hoq hswo
      · go_wp2_with fail
        go_loopw [10, 11] (fun v i ws => ∃ q : Nat, q ≤ N ∧ i = .int .i64 q ∧ ws.ownsRow wo.heap.size 83 3 v q (c3s (rr.take q)) ∧ Below wo.heap.size wo ws) (fun _ i _ => N - (intOf i).toNat)
        case atStart => exact ⟨0, by omega, rfl, hP2, (Below.refl _ _).alloc (Nat.le_refl _) _⟩
        case round =>
          obtain ⟨q, hq, rfl, hoq, hbq⟩ := hrel
          obtain ⟨A3, c3', rfl, -⟩ := Rd.of_own hoq
          have hszq := hbq.size
          by_cases hltq : q < N
          · obtain ⟨j, hj⟩ : ∃ j : Nat, (f + q) % N = j := ⟨_, rfl⟩
            have hjl : j < N := by rw [← hj]; exact Nat.mod_lt _ (by omega)
            have hjI : ((f : Int) + (q : Int)) % (N : Int) = (j : Int) := by rw [← hj]; simp
            have Hj := Lib.hid hj
            clear hj
            obtain ⟨b1, o1, xa, ya, za, rfl, hb1, hpa, qa1, qa2, qa3⟩ := (hrd.below hbq (Nat.le_refl _)).at3 hjl
            have hsn := Lib.hid (Hrot.out q _ hltq (by rw [Hj.out]; exact hpa.out))
            have hb1q : b1 < wr.heap.size := by omega
            go_wp2_with (at_builtin; refine wpList_append_any _ rfl (.tmp 99) (.tmp 109) 80 rfl wo.heap.size 83 i0 _ 3 24 Try.underlying80 hi0 hz0 hz1 hz2 rfl (by decide) (.slice A3 q c3') q (c3s (rr.take q)) rfl (hoq.alloc _) (wr.heap.size + 1) (some ⟨wr.heap.size, 0, none⟩) 1 1 [.int .i64 xa, .int .i64 ya, .bool za] rfl (by exact Rd.newAt _ _ (by simp) #[.int .i64 xa, .int .i64 ya, .bool za] 83 1 3 rfl) (by simp [Value.oneCell']) (by simp only [maxLen]; omega) (by omega) (by simp; omega) ?_; intro v1 w1 hown1 hg1 _)
            go_roundw
            case rel =>
              refine ⟨q + 1, by omega, by go_num, ?_, (hbq.alloc hszq _).grown hg1 (by simp; omega) (fun g hg => (hoq.lt g hg).1)⟩
              rw [hsn.out, c3s_append]
              simpa [c3s, c3] using hown1
            case measure => simp [intOf]; omega
          · go_wp2_with fail
            go_ret
            refine ⟨_, rfl, ?_, hbl.trans (hbq.mono hswo)⟩
            rw [hRL2.out, hrl.out]
            obtain rfl : q = N := by omega
            rw [List.take_of_length_le (by rw [hrl.out]; omega)] at hoq
            exact ownsRow_base hoq hswo
end Go.Proofs.Ytfpdbdbgemolgaa
