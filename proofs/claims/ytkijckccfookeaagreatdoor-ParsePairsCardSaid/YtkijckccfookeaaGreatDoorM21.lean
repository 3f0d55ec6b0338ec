/- parse: anchor. Printed by gen_pat.py. -/
import Derived.Test.YtkijckccfookeaaGreatDoorPaS
import Derived.Test.YtkijckccfookeaaGreatDoorPaN
namespace Go.Proofs.YtkijckccfookeaaGreatDoor
open Go.RowKit
attribute [-go_sem] Builtin.append_

theorem anch_len : anchorNames.length = 4 := by decide
theorem index_anch (k : Nat) (s : B) (h : anchorNames[k]? = some s) (w : World) : (Instr.index 205 (.agg (strs anchorNames).toArray) (.int .i64 (k : Int))).run Tryz.prog w = .ok (.string ⟨s.toArray⟩) w := by
  have hk : k < 4 := by have := (List.getElem?_eq_some_iff.1 h).1; rw [anch_len] at this; exact this
  have hs := strs_get h
  have hk2 : (k : Int) < 4 := by omega
  have hk3 : (0 : Int) ≤ k := by omega
  simp [Instr.index, go_sem, hk2, hk3, hs]
  omega
theorem size_anch : (strs anchorNames).toArray.size = 4 := by simp [strs_len, anch_len]
theorem anch_one : ∀ i j : Fin 4, anchorNames[i.val]? = anchorNames[j.val]? → i = j := by decide
/-- the kind among the first names -/
def KindTo (t : B) (k : Nat) (kv : Int) : Prop := (kv = 0 ∧ ∀ j s, j < k → anchorNames[j]? = some s → s ≠ t) ∨ (∃ j, j < k ∧ kv = (j : Int) + 1 ∧ anchorNames[j]? = some t)
theorem KindTo.hit {t s : B} {k : Nat} {kv : Int} (_h : KindTo t k kv) (hs : anchorNames[k]? = some s) (e : s = t) : KindTo t (k + 1) ((k : Int) + 1) := .inr ⟨k, by omega, rfl, by rw [hs, e]⟩
theorem KindTo.miss {t s : B} {k : Nat} {kv : Int} (h : KindTo t k kv) (hs : anchorNames[k]? = some s) (e : s ≠ t) : KindTo t (k + 1) kv := by
  rcases h with ⟨h1, h2⟩ | ⟨j, h1, h2, h3⟩
  · refine .inl ⟨h1, fun j s' hj hs' => ?_⟩
    by_cases hjk : j = k
    · subst hjk
      rw [hs] at hs'
      cases hs'
      exact e
    · exact h2 j s' (by omega) hs'
  · exact .inr ⟨j, by omega, h2, h3⟩
theorem KindTo.done {t : B} {k : Nat} {kv : Int} (h : KindTo t k kv) (hk : 4 ≤ k) : kindN anchorNames t = kv := by
  have hl : ∀ j s, anchorNames[j]? = some s → j < 4 := fun j s hj => by have := (List.getElem?_eq_some_iff.1 hj).1; rw [anch_len] at this; exact this
  rcases h with ⟨h1, h2⟩ | ⟨j, h1, h2, h3⟩
  · rw [h1]; exact kindN_none _ t fun j s hj => h2 j s (by have := hl j s hj; omega) hj
  · rw [h2]
    refine kindN_at _ t j h3 fun i s hi hs e => ?_
    subst e
    have h4 := hl i s hs
    have h5 := hl j s h3
    have := anch_one ⟨i, h4⟩ ⟨j, h5⟩ (hs.trans h3.symm)
    simp only [Fin.mk.injEq] at this
    omega
theorem KindTo.i64 {t : B} {k : Nat} {kv : Int} (h : KindTo t k kv) (hk : k ≤ 4) : I64 kv := by
  rcases h with ⟨rfl, _⟩ | ⟨j, h1, h2, h3⟩
  · exact ⟨by omega, by omega⟩
  · exact ⟨by omega, by omega⟩
theorem rAnchor_no (s : PS) (l : List B) (h : l.length ≠ 4) : rAnchor s l = .error 22 := by
  unfold rAnchor
  split
  · rfl
  · split
    · simp at h
    · rfl
abbrev tAn : TypeId := 89
set_option maxRecDepth 100000 in
set_option maxHeartbeats 4000000 in
theorem readAnchor_ok (w : World) (Bd p gm cm : Nat) (gl : Gl) (s : PS) (rv : Rows) (K : Nat) (A : Option Addr) (n c : Nat) (ws : List P3) (t : B) (l : List B) (hP : PSt w Bd p gm cm gl s rv K) (hL : LnAt w A n ws) (hT : txts ws = t :: l) (hK : K ≤ 10000000000) (hTb : PTabs w) {init : List Glyph} {g : Glyph} (hs : s.f.glyphs = init ++ [g]) {G n0 c9 q : Nat} (h0 : (rv 0).v = .slice (some ⟨G, 0, none⟩) n0 c9) (hq : q = init.length * 9) :
    Calls Tryz.prog 83 #[.pointer (some ⟨p, 0, none⟩), .slice A n c, .pointer (some ⟨G, q, none⟩)] w (StPost w Bd p gm cm gl (K + n) (rAnchor s l)) := by
  have hn : n = l.length + 1 := by rw [← hL.length]; exact txts_cons hT
  have hB := hP.size
  by_cases h1 : l.length = 4
  · obtain ⟨t1, t2, t3, t4, rfl⟩ : ∃ t1 t2 t3 t4, l = [t1, t2, t3, t4] := by
      match l, h1 with
      | [a1, a2, a3, a4], _ => exact ⟨a1, a2, a3, a4, rfl⟩
    obtain ⟨b, o, rfl, hb, q1, hz1⟩ := hL.word (k := 1) (t := t1) (by rw [hT]; rfl) (d := 3) rfl
    obtain ⟨b', o', e', -, q2, hz2⟩ := hL.word (k := 2) (t := t2) (by rw [hT]; rfl) (d := 6) rfl
    obtain ⟨rfl, rfl⟩ : b = b' ∧ o = o' := by simpa using e'
    clear e'
    obtain ⟨b', o', e', -, q3, hz3⟩ := hL.word (k := 3) (t := t3) (by rw [hT]; rfl) (d := 9) rfl
    obtain ⟨rfl, rfl⟩ : b = b' ∧ o = o' := by simpa using e'
    clear e'
    obtain ⟨b', o', e', -, q4, hz4⟩ := hL.word (k := 4) (t := t4) (by rw [hT]; rfl) (d := 12) rfl
    obtain ⟨rfl, rfl⟩ : b = b' ∧ o = o' := by simpa using e'
    clear e'
    simp only [List.length_cons, List.length_nil] at hn
    subst hn
    have HP := Lib.hid hP
    obtain ⟨G', c9', ci, gv, -, -, hGb, gcell, gfz, gbk⟩ := hP.glyph_cells hs
    obtain ⟨rfl, hn0, rfl⟩ : G' = G ∧ init.length + 1 = n0 ∧ c9' = c9 := by rw [gv] at h0; simpa using h0
    have hpb : G' < w.heap.size := hGb
    obtain ⟨A0, c0, hv⟩ := hP.slice (i := 11) (by decide)
    have kp : w.cell? ⟨G', q + 6, none⟩ = some (rv 11).v := by rw [hq]; exact gcell 6 (by decide)
    rw [hv] at kp
    have hfew := hP.few 11 (by decide)
    have HR : Hid (rAnchor s [t1, t2, t3, t4] = if kindN anchorNames t1 = 0 then .error 22 else fin (eNums 0 [t2, t3, t4]) { s with f := { s.f with glyphs := init ++ [{ g with anchors := g.anchors ++ [⟨kindN anchorNames t1, numV t2, numV t3, numV t4⟩] }] } }) := by
      show _ = _
      unfold rAnchor
      rw [if_neg (gl_ne hs)]
      simp only
      rw [onLast_eq s _ hs]
    have Hs := Lib.hid hs
    have Hq := Lib.hid hq
    have H0 := Lib.hid h0
    have Hgbk := Lib.hid gbk
    have HN2 := Lib.hid (fun w rb er h => number_ok w rb p er t2 h hz2)
    have HI2 := Lib.hid (numV_i64 t2)
    have HN3 := Lib.hid (fun w rb er h => number_ok w rb p er t3 h hz3)
    have HI3 := Lib.hid (numV_i64 t3)
    have HN4 := Lib.hid (fun w rb er h => number_ok w rb p er t4 h hz4)
    have HI4 := Lib.hid (numV_i64 t4)
    generalize numV t2 = v2 at *
    generalize numV t3 = v3 at *
    generalize numV t4 = v4 at *
    obtain ⟨ty, fz, hbt⟩ := hTb.anch
    have hltT : 2 < w.heap.size := hTb.anch.lt
    have hix := Lib.hid index_anch
    have hsz := size_anch
    generalize (strs anchorNames).toArray = cs at *
    have Hsz := Lib.hid (show (Tryz.prog.info? 205).map (·.size) = some cs.size by rw [hsz]; kernel_rfl)
    have Hbt : Hid ((w.alloc (.cells #[.int .i64 0, .int .i64 0, .int .i64 0, .int .i64 0] tAn)).heap[2]? = some (.cells cs ty fz)) := (Below.heap_alloc w _ _ hltT).trans hbt
    have HD1 : Hid (Bk (w.alloc (.cells #[.int .i64 0, .int .i64 0, .int .i64 0, .int .i64 0] tAn)) w.heap.size tAn #[.int .i64 0, .int .i64 0, .int .i64 0, .int .i64 0]) := Bk.new _ _ _
    have HB1 : Hid (Below w.heap.size w (w.alloc (.cells #[.int .i64 0, .int .i64 0, .int .i64 0, .int .i64 0] tAn))) := Lib.hid ((Below.refl _ _).alloc (Nat.le_refl _) _)
    clear hsz hP hL hT hz1 hz2 hz3 hz4 hTb hs hq h0 gv gcell gfz gbk hn0 h1 hbt hltT
    have HQ1 := Lib.hid q1
    have HQ2 := Lib.hid q2
    have HQ3 := Lib.hid q3
    have HQ4 := Lib.hid q4
    clear q1 q2 q3 q4
    go_enter Tryz.func83, Tryz.ntmps83
    go_wp2_with (refine wpList_load_row rfl 205 (.global 2) rfl 2 rfl ty cs fz _ Hbt.out Tryz.underlying205 rfl Hsz.out ?_)
    go_loopw [15] (fun i wr => ∃ (k : Nat) (kv : Int), k ≤ 4 ∧ i = .int .i64 k ∧ Hid (KindTo t1 k kv) ∧ Bk wr w.heap.size tAn #[.int .i64 kv, .int .i64 0, .int .i64 0, .int .i64 0] ∧ Below w.heap.size w wr) (fun i _ => 4 - (intOf i).toNat)
    case atStart => exact ⟨0, 0, by omega, rfl, .inl ⟨rfl, fun j s hj => by omega⟩, HD1.out, HB1.out⟩
    case round =>
      obtain ⟨k, kv, hk, rfl, hl, hD, hbw⟩ := hrel
      have d0 : wr.cell? ⟨w.heap.size, 0, none⟩ = some (.int .i64 kv) := hD.cell 0
      have d1 := hD.frozen 0
      have q1 : wr.cell? ⟨b, o + 3 + 2, none⟩ = some (.string ⟨t1.toArray⟩) := ((bcell hbw).1 _ _ hb).trans HQ1.out
      have hzw := hD.lt
      by_cases hlt : k < 4
      · obtain ⟨nm, hsn⟩ : ∃ nm, anchorNames[k]? = some nm := ⟨_, List.getElem?_eq_getElem (by rw [anch_len]; exact hlt)⟩
        have hrun := hix.out k nm hsn
        by_cases he : nm = t1
        · have e1 : (nm == t1) = true := by simp [he]
          have hnx := Lib.hid (hl.out.hit hsn he)
          have HD2 := Lib.hid (hD.set 0 (.int .i64 ((k : Int) + 1)))
          have HB2 := Lib.hid (hbw.setCell (p := ⟨w.heap.size, 0, none⟩) (Nat.le_refl _) (.int .i64 ((k : Int) + 1)))
          clear hsn he hD hbw hl
          go_wp2
          go_roundw
          case rel => exact ⟨k + 1, (k : Int) + 1, by omega, by simp, hnx, HD2.out, HB2.out⟩
          case measure => simp [intOf]; omega
        · have e1 : (nm == t1) = false := by simpa using he
          have hnx := Lib.hid (hl.out.miss hsn he)
          have HD2 := Lib.hid hD
          have HB2 := Lib.hid hbw
          clear hsn he hD hbw hl
          go_wp2
          go_roundw
          case rel => exact ⟨k + 1, kv, by omega, by simp, hnx, HD2.out, HB2.out⟩
          case measure => simp [intOf]; omega
      · obtain rfl : k = 4 := by omega
        have hkn := hl.out.done (Nat.le_refl _)
        have HIk := Lib.hid (hl.out.i64 (Nat.le_refl _))
        by_cases hkv : kv = 0
        · have HR2 : Hid (rAnchor s [t1, t2, t3, t4] = .error 22) := by
            show _ = _
            rw [HR.out, if_pos (by rw [hkn, hkv])]
          subst hkv
          have HB2 := Lib.hid hbw
          clear hD hbw hl hkn HIk
          go_wp2
          go_ret
          exact StPost.bad HR2.out (HB2.out.mono hB)
        · have HR2 : Hid (rAnchor s [t1, t2, t3, t4] = fin (eNums 0 [t2, t3, t4]) { s with f := { s.f with glyphs := init ++ [{ g with anchors := g.anchors ++ [⟨kv, v2, v3, v4⟩] }] } }) := by
            show _ = _
            rw [HR.out, if_neg (by rw [hkn]; exact hkv), hkn]
          have e1 : (kv == 0) = false := by simpa using hkv
          have HD2 := Lib.hid hD
          have HB2 := Lib.hid hbw
          clear hD hbw hl hkn hkv
          go_wp2_with fail
          refine (read_ok wr p).mono ?_
          rintro e w1 ⟨rfl, hr1, hb1⟩
          have hl1 := hr1.lt
          have Hb1 : Hid (Below w.heap.size w w1) := HB2.out.trans (hb1.mono HB2.out.size)
          have HK1 : Hid (Bk w1 w.heap.size tAn #[.int .i64 kv, .int .i64 0, .int .i64 0, .int .i64 0]) := HD2.out.keep (hb1.block w.heap.size hzw)
          have Hr1 := Lib.hid hr1
          clear hr1 hb1
          have hbl : b ≠ w.heap.size := by omega
          have hpc : G' ≠ w.heap.size := by omega
          have hrw : wr.heap.size ≠ w.heap.size := by omega
          have hz0 : w.heap.size ≤ wr.heap.size := by omega
          have p1 : w1.cell? ⟨b, o + 6 + 2, none⟩ = some (.string ⟨t2.toArray⟩) := ((bcell Hb1.out).1 _ _ hb).trans HQ2.out
          go_wp2_with fail
          refine (HN2.out _ _ _ (by exact Hr1.out)).mono ?_
          rintro e w2 ⟨rfl, hr2, hg2⟩
          have hb2 := below_rdr Hb1.out hg2 hz0
          have hk2 : Bk w2 w.heap.size tAn #[.int .i64 kv, .int .i64 0, .int .i64 0, .int .i64 0] := Bk.kept2 hg2 HK1.out (by omega)
          have k2_0 : w2.cell? ⟨w.heap.size, 1, none⟩ = some (.int .i64 0) := hk2.cell 1
          have y2 := hk2.frozen 1
          have hs2 := hk2.lt
          have p2 : w2.cell? ⟨b, o + 9 + 2, none⟩ = some (.string ⟨t3.toArray⟩) := ((bcell hb2).1 _ _ hb).trans HQ3.out
          have Hr2 : Hid (Rdr (w2.setCell ⟨w.heap.size, 1, none⟩ (.int .i64 v2)) wr.heap.size p (eNum 0 t2)) := Bk.far hr2 (by simp; omega) _
          have Hb2 := Lib.hid (hb2.setCell (p := ⟨w.heap.size, 1, none⟩) (Nat.le_refl _) (.int .i64 v2))
          have HK2 : Hid (Bk (w2.setCell ⟨w.heap.size, 1, none⟩ (.int .i64 v2)) w.heap.size tAn #[.int .i64 kv, .int .i64 v2, .int .i64 0, .int .i64 0]) := hk2.set 1 _
          clear hr2 hg2 hb2 hk2
          go_wp2_with fail
          refine (HN3.out _ _ _ (by exact Hr2.out)).mono ?_
          rintro e w3 ⟨rfl, hr3, hg3⟩
          have hb3 := below_rdr Hb2.out hg3 hz0
          have hk3 : Bk w3 w.heap.size tAn #[.int .i64 kv, .int .i64 v2, .int .i64 0, .int .i64 0] := Bk.kept2 hg3 HK2.out (by omega)
          have k3_0 : w3.cell? ⟨w.heap.size, 2, none⟩ = some (.int .i64 0) := hk3.cell 2
          have y3 := hk3.frozen 2
          have hs3 := hk3.lt
          have p3 : w3.cell? ⟨b, o + 12 + 2, none⟩ = some (.string ⟨t4.toArray⟩) := ((bcell hb3).1 _ _ hb).trans HQ4.out
          have Hr3 : Hid (Rdr (w3.setCell ⟨w.heap.size, 2, none⟩ (.int .i64 v3)) wr.heap.size p (eNum (eNum 0 t2) t3)) := Bk.far hr3 (by simp; omega) _
          have Hb3 := Lib.hid (hb3.setCell (p := ⟨w.heap.size, 2, none⟩) (Nat.le_refl _) (.int .i64 v3))
          have HK3 : Hid (Bk (w3.setCell ⟨w.heap.size, 2, none⟩ (.int .i64 v3)) w.heap.size tAn #[.int .i64 kv, .int .i64 v2, .int .i64 v3, .int .i64 0]) := hk3.set 2 _
          clear hr3 hg3 hb3 hk3
          go_wp2_with fail
          refine (HN4.out _ _ _ (by exact Hr3.out)).mono ?_
          rintro e w4 ⟨rfl, hr4, hg4⟩
          have hb4 := below_rdr Hb3.out hg4 hz0
          have hk4 : Bk w4 w.heap.size tAn #[.int .i64 kv, .int .i64 v2, .int .i64 v3, .int .i64 0] := Bk.kept2 hg4 HK3.out (by omega)
          have k4_0 : w4.cell? ⟨w.heap.size, 3, none⟩ = some (.int .i64 0) := hk4.cell 3
          have y4 := hk4.frozen 3
          have hs4 := hk4.lt
          have Hr4 : Hid (Rdr (w4.setCell ⟨w.heap.size, 3, none⟩ (.int .i64 v4)) wr.heap.size p (eNum (eNum (eNum 0 t2) t3) t4)) := Bk.far hr4 (by simp; omega) _
          have Hb4 := Lib.hid (hb4.setCell (p := ⟨w.heap.size, 3, none⟩) (Nat.le_refl _) (.int .i64 v4))
          have HK4 : Hid (Bk (w4.setCell ⟨w.heap.size, 3, none⟩ (.int .i64 v4)) w.heap.size tAn #[.int .i64 kv, .int .i64 v2, .int .i64 v3, .int .i64 v4]) := hk4.set 3 _
          clear hr4 hg4 hb4 hk4
          go_wp2_with fail
          obtain ⟨W1, hW1⟩ : ∃ W1, w4.setCell ⟨w.heap.size, 3, none⟩ (.int .i64 v4) = W1 := ⟨_, rfl⟩
          rw [hW1]
          have Hr := Hr4
          have Hb := Hb4
          have HKb := HK4
          rw [hW1] at Hr Hb HKb
          have a_0 : W1.cell? ⟨w.heap.size, 0, none⟩ = some (.int .i64 kv) := HKb.out.cell 0
          have a_1 : W1.cell? ⟨w.heap.size, 1, none⟩ = some (.int .i64 v2) := HKb.out.cell 1
          have a_2 : W1.cell? ⟨w.heap.size, 2, none⟩ = some (.int .i64 v3) := HKb.out.cell 2
          have a_3 : W1.cell? ⟨w.heap.size, 3, none⟩ = some (.int .i64 v4) := HKb.out.cell 3
          have HPW := HP.out.below Hb.out
          have a_p : W1.cell? ⟨G', q + 6, none⟩ = some (.slice A0 (rv 11).n c0) := ((bcell Hb.out).1 _ _ hpb).trans kp
          have zp : G' < W1.heap.size := Nat.lt_of_lt_of_le hpb Hb.out.size
          have zc : w.heap.size < W1.heap.size := HKb.out.lt
          have zr : wr.heap.size < W1.heap.size := Hr.out.lt
          have hown := HPW.live.own 11 (by decide)
          rw [hv] at hown
          obtain ⟨A5, c5, w9, hrun, ho9, hg9, hl9⟩ := run_push elAnch 55 W1 Bd _ c0 A0 _ #[.int .i64 kv, .int .i64 v2, .int .i64 v3, .int .i64 v4] rfl hown (by simp [Value.oneCell']) (by omega) (by omega)
          rw [← hv] at hg9 hl9
          have hp9 : ∃ cur, Bk w9 G' 59 cur ∧ cur[q + 6]? = some (rv 11).v := by
            obtain ⟨cur, hb9⟩ := Hgbk.out
            have h1 : Bk w9 G' 59 cur := Bk.grown (hb9.keep (Hb.out.block G' hpb)) hg9 (HPW.live.own 11 (by decide)) (by decide)
            exact ⟨cur, h1, by rw [← hb9.cell, kp, hv]⟩
          obtain ⟨cur9, hp9, hq9⟩ := hp9
          have hr9 := Bk.grown Hr.out hg9 (HPW.live.own 11 (by decide)) (by decide)
          have x9 : w9.cell? ⟨G', q + 6, none⟩ = some (rv 11).v := (hp9.cell _).trans hq9
          have y9 := hp9.frozen (q + 6)
          have z9 : w9.cell? ⟨wr.heap.size, 1, none⟩ = some (.int .i64 (eNum (eNum (eNum 0 t2) t3) t4)) := hr9.cell 1
          have her2 : Hid (eNums 0 [t2, t3, t4] = (eNum (eNum (eNum 0 t2) t3) t4)) := rfl
          rw [her2.out] at HR2
          generalize her : (eNum (eNum (eNum 0 t2) t3) t4) = er at *
          have Hpush := Lib.hid (PSt.more_ans (m := 1) (K' := K + (0 + 1 + 1 + 1 + 1 + 1)) HPW Hs.out H0.out hg9 ho9 hl9 (ys := [⟨kv, v2, v3, v4⟩]) rfl (Fl.one (R := AnchorR) (⟨rfl, HIk.out, HI2.out, HI3.out, HI4.out⟩) rfl) (by omega))
          rw [← Hq.out] at Hpush
          have Hlow := Lib.hid (Hb.out.mono hB)
          have HQ := Lib.hid (KQ.below (cm := cm) Hb.out)
          clear hW1 hown ho9 hg9 hl9 hp9 hr9 HPW hq9
          go_region
          all_goals
            go_wp2
            go_ret
            obtain ⟨rv', g1, g2, g3, -⟩ := Hpush.out
            exact StPost.fin HR2.out (Hlow.out.trans g3) (HQ.out.trans g2) g1
  · have HR := Lib.hid (rAnchor_no s l h1)
    have e1 : ((n : Int) == 5) = false := by simp; omega
    have e2 : ((n : Int) != 5) = true := by simp; omega
    clear hP hL hT h1 hn hs h0 hq
    go_enter Tryz.func83, Tryz.ntmps83
    go_wp2
    go_ret
    exact StPost.bad HR.out (Below.refl _ _)
end Go.Proofs.YtkijckccfookeaaGreatDoor
/- parse: statements about the last glyph, the last lookup. -/
namespace Go.Proofs.YtkijckccfookeaaGreatDoor
open Go.RowKit

theorem StPost.undrew {w w' : World} {Bd p gm cm : Nat} {gl : Gl} {K : Nat} {r : Ans} {e : Ending} (h : StPost w.drew Bd p gm cm gl K r e w') : StPost w Bd p gm cm gl K r e w' := by
  obtain ⟨h1, h2⟩ := h
  refine ⟨⟨h1.os, h1.tape, h1.output, h1.size, h1.block⟩, ?_⟩
  cases r with
  | ok s => exact ⟨h2.1, ⟨h2.2.1.same, h2.2.1.size⟩, h2.2.2⟩
  | error e => exact h2
theorem StPost.ret {w w' : World} {Bd p gm cm : Nat} {gl : Gl} {K : Nat} {r : Ans} {e : Ending} (h : StPost w Bd p gm cm gl K r e w') : ∃ v : Int, e = .returned (.int .i64 v) := by
  obtain ⟨h1, h2⟩ := h
  cases r with
  | ok s => exact ⟨0, h2.1⟩
  | error e => exact ⟨e, h2⟩
set_option maxHeartbeats 4000000 in
theorem ofGlyph1_ok (F : Nat) (hE : ∀ (args : Array Value) (w : World), (callFunc F args).run Tryz.prog w = .ok (.enter F args) w) (w : World) (Bd p gm cm : Nat) (gl : Gl) (s : PS) (rv : Rows) (K K2 : Nat) (A : Option Addr) (n c c1 c2 : Nat) (r : Ans)
    (hP : PSt w Bd p gm cm gl s rv K) (k1 : w.cell? ⟨c1, 0, none⟩ = some (.pointer (some ⟨p, 0, none⟩))) (k2 : w.cell? ⟨c2, 0, none⟩ = some (.func (.func F) #[.pointer (some ⟨p, 0, none⟩)] #[])) (h0 : s.f.glyphs = [] → r = .error 22)
    (h1 : ∀ init g, s.f.glyphs = init ++ [g] → ∀ G n0 c9, (rv 0).v = .slice (some ⟨G, 0, none⟩) n0 c9 → Calls Tryz.prog F #[.pointer (some ⟨p, 0, none⟩), .slice A n c, .pointer (some ⟨G, init.length * 9, none⟩)] w.drew (StPost w.drew Bd p gm cm gl K2 r)) (hK : K ≤ 10000000000) :
    Calls Tryz.prog 129 #[.slice A n c, .pointer (some ⟨c1, 0, none⟩), .pointer (some ⟨c2, 0, none⟩)] w (StPost w Bd p gm cm gl K2 r) := by
  have hfew := hP.few 0 (by decide)
  have kp : w.cell? ⟨p, 1, none⟩ = some (rv 0).v := hP.par.cell 1
  have hlen := hP.fnt.gly.1
  rcases List.eq_nil_or_concat s.f.glyphs with hg | ⟨init, g, hg⟩
  · obtain ⟨A0, c0, hv⟩ := hP.slice (i := 0) (by decide)
    rw [hg] at hlen
    rw [hv, hlen] at kp
    have HR := Lib.hid (h0 hg)
    have HB := Lib.hid hP.size
    clear hP h0 h1 hg hlen hfew
    go_enter Tryz.func129, Tryz.ntmps129
    go_wp2_with fail
    go_ret
    exact StPost.bad HR.out (Below.refl _ _)
  · rw [List.concat_eq_append] at hg
    obtain ⟨G, c0, ci, e1, -, -, hGb, -⟩ := hP.glyph_cells hg
    have hc := Lib.hid (h1 init g hg _ _ _ e1)
    rw [e1] at kp
    rw [hg] at hlen
    have hi : init.length + 1 ≤ 10000000000 := by
      rw [List.length_append] at hlen
      simp only [List.length_cons, List.length_nil] at hlen
      omega
    clear hP h0 h1 hg hlen hfew
    go_enter Tryz.func129, Tryz.ntmps129
    go_wp2_with fail
    go_region_with (refine hc.out.mono ?_; rintro e w2 hpost; obtain ⟨ev, rfl⟩ := hpost.ret; have HP2 := Lib.hid hpost; clear hpost)
    all_goals
      go_wp2
      go_ret
      exact HP2.out.undrew
set_option maxHeartbeats 4000000 in
theorem ofLookup1_ok (F : Nat) (hE : ∀ (args : Array Value) (w : World), (callFunc F args).run Tryz.prog w = .ok (.enter F args) w) (w : World) (Bd p gm cm : Nat) (gl : Gl) (s : PS) (rv : Rows) (K K2 : Nat) (A : Option Addr) (n c c1 c2 : Nat) (r : Ans)
    (hP : PSt w Bd p gm cm gl s rv K) (k1 : w.cell? ⟨c1, 0, none⟩ = some (.pointer (some ⟨p, 0, none⟩))) (k2 : w.cell? ⟨c2, 0, none⟩ = some (.func (.func F) #[.pointer (some ⟨p, 0, none⟩)] #[])) (h0 : s.f.lookups = [] → r = .error 22)
    (h1 : ∀ init g, s.f.lookups = init ++ [g] → ∀ G n0 c9, (rv 2).v = .slice (some ⟨G, 0, none⟩) n0 c9 → Calls Tryz.prog F #[.pointer (some ⟨p, 0, none⟩), .slice A n c, .pointer (some ⟨G, init.length * 3, none⟩)] w.drew (StPost w.drew Bd p gm cm gl K2 r)) (hK : K ≤ 10000000000) :
    Calls Tryz.prog 133 #[.slice A n c, .pointer (some ⟨c1, 0, none⟩), .pointer (some ⟨c2, 0, none⟩)] w (StPost w Bd p gm cm gl K2 r) := by
  have hfew := hP.few 2 (by decide)
  have kp : w.cell? ⟨p, 3, none⟩ = some (rv 2).v := hP.par.cell 3
  have hlen := hP.fnt.lks.1
  rcases List.eq_nil_or_concat s.f.lookups with hg | ⟨init, g, hg⟩
  · obtain ⟨A0, c0, hv⟩ := hP.slice (i := 2) (by decide)
    rw [hg] at hlen
    rw [hv, hlen] at kp
    have HR := Lib.hid (h0 hg)
    have HB := Lib.hid hP.size
    clear hP h0 h1 hg hlen hfew
    go_enter Tryz.func133, Tryz.ntmps133
    go_wp2_with fail
    go_ret
    exact StPost.bad HR.out (Below.refl _ _)
  · rw [List.concat_eq_append] at hg
    obtain ⟨G, c0, ci, e1, -, -, hGb, -⟩ := hP.lookup_cells hg
    have hc := Lib.hid (h1 init g hg _ _ _ e1)
    rw [e1] at kp
    rw [hg] at hlen
    have hi : init.length + 1 ≤ 10000000000 := by
      rw [List.length_append] at hlen
      simp only [List.length_cons, List.length_nil] at hlen
      omega
    clear hP h0 h1 hg hlen hfew
    go_enter Tryz.func133, Tryz.ntmps133
    go_wp2_with fail
    go_region_with (refine hc.out.mono ?_; rintro e w2 hpost; obtain ⟨ev, rfl⟩ := hpost.ret; have HP2 := Lib.hid hpost; clear hpost)
    all_goals
      go_wp2
      go_ret
      exact HP2.out.undrew
end Go.Proofs.YtkijckccfookeaaGreatDoor
