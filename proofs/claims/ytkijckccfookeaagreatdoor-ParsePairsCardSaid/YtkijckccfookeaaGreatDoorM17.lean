/- parse: axis, char. Printed by gen_pai.py. -/
import Derived.Test.YtkijckccfookeaaGreatDoorM14
import Derived.Deep.RegionWith
namespace Go.Proofs.YtkijckccfookeaaGreatDoor
open Go.RowKit
attribute [-go_sem] Builtin.append_

def n9 (k : Nat) : Nat := k + 1
theorem vGl_i64 {gl : Gl} (h : ∀ t n, gl.lookup t = some n → n ≤ 1000000000) (t : B) : I64 (vGl gl t) := by
  unfold vGl I64
  cases hl : gl.lookup t with
  | none => exact ⟨by decide, by decide⟩
  | some n =>
    have := h t n hl
    simp only [Option.getD_some]
    exact ⟨by omega, by omega⟩
theorem rChar_no (gl : Gl) (s : PS) (l : List B) (h : l.length ≠ 2) : rChar gl s l = .error 22 := by
  unfold rChar
  split
  · simp at h
  · rfl
set_option maxRecDepth 100000 in
set_option maxHeartbeats 4000000 in
theorem readChar_ok (w : World) (Bd p gm cm : Nat) (gl : Gl) (s : PS) (rv : Rows) (K : Nat) (A : Option Addr) (n c : Nat) (ws : List P3) (t : B) (l : List B) (hP : PSt w Bd p gm cm gl s rv K) (hL : LnAt w A n ws) (hT : txts ws = t :: l) (hK : K ≤ 10000000000) :
    Calls Tryz.prog 86 #[.pointer (some ⟨p, 0, none⟩), .slice A n c] w (StPost w Bd p gm cm gl (K + n) (rChar gl s l)) := by
  have hn : n = l.length + 1 := by rw [← hL.length]; exact txts_cons hT
  have hB := hP.size
  by_cases h1 : l.length = 2
  · obtain ⟨t1, t2, rfl⟩ : ∃ t1 t2, l = [t1, t2] := by
      match l, h1 with
      | [a1, a2], _ => exact ⟨a1, a2, rfl⟩
    obtain ⟨b, o, rfl, hb, q1, hz1⟩ := hL.word (k := 1) (t := t1) (by rw [hT]; rfl) (d := 3) rfl
    obtain ⟨b', o', e', -, q2, hz2⟩ := hL.word (k := 2) (t := t2) (by rw [hT]; rfl) (d := 6) rfl
    obtain ⟨rfl, rfl⟩ : b = b' ∧ o = o' := by simpa using e'
    clear e'
    simp only [List.length_cons, List.length_nil] at hn
    subst hn
    have HP := Lib.hid hP
    have hpb : p < w.heap.size := hP.par.lt
    obtain ⟨A0, c0, hv⟩ := hP.slice (i := 1) (by decide)
    have kp : w.cell? ⟨p, 2, none⟩ = some (rv 1).v := hP.par.cell 2
    rw [hv] at kp
    have fp := hP.par.frozen 2
    have hfew := hP.few 1 (by decide)
    have HR : Hid (rChar gl s [t1, t2] = fin (eGl gl (eNum 0 t1) t2) { s with f := { s.f with chars := s.f.chars ++ [⟨numV t1, vGl gl t2⟩] } }) := rfl
    have HN1 := Lib.hid (fun w rb er h => number_ok w rb p er t1 h hz1)
    have HI1 := Lib.hid (numV_i64 t1)
    have HN2 := Lib.hid (fun w rb er h hm => glyph_ok w rb p gm gl er t2 h hm)
    have HI2 := Lib.hid (vGl_i64 hP.glI t2)
    generalize numV t1 = v1 at *
    generalize vGl gl t2 = v2 at *
    clear hP hL hT h1 hz1 hz2
    go_enter Tryz.func86, Tryz.ntmps86
    go_wp2_with fail
    refine (read_ok w p).mono ?_
    rintro e w1 ⟨rfl, hr1, hb1⟩
    obtain ⟨hc1, hf1⟩ := bcell hb1
    have p1_1 : w1.cell? ⟨b, o + 3 + 2, none⟩ = some (.string ⟨t1.toArray⟩) := (hc1 _ _ hb).trans q1
    have hl1 := hr1.lt
    have hs1 := hb1.size
    have hbl : b < w1.heap.size := by omega
    have hbc : b ≠ w1.heap.size := by omega
    have hpc : p ≠ w1.heap.size := by omega
    have Hr1 := Lib.hid (hr1.alloc (.cells #[.int .i64 0, .int .i64 0] 93))
    have Hb1 := Lib.hid (hb1.alloc hs1 (.cells #[.int .i64 0, .int .i64 0] 93))
    have HK1 : Hid (Bk (w1.alloc (.cells #[.int .i64 0, .int .i64 0] 93)) w1.heap.size 93 #[.int .i64 0, .int .i64 0]) := Bk.new _ _ _
    clear hr1 hb1
    go_wp2_with fail
    refine (HN1.out _ _ _ (by exact Hr1.out)).mono ?_
    rintro e w2 ⟨rfl, hr2, hg2⟩
    have hb2 := below_rdr Hb1.out hg2 (Nat.le_refl _)
    obtain ⟨hc2, hf2⟩ := bcell hb2
    have hk2 : Bk w2 w1.heap.size 93 #[.int .i64 0, .int .i64 0] := Bk.kept2 hg2 HK1.out (by omega)
    have k2_0 : w2.cell? ⟨w1.heap.size, 0, none⟩ = some (.int .i64 0) := hk2.cell 0
    have k2_1 : w2.cell? ⟨w1.heap.size, 1, none⟩ = some (.int .i64 0) := hk2.cell 1
    have y2 := hk2.frozen 0
    have hs2 := hk2.lt
    have p2_2 : w2.cell? ⟨b, o + 6 + 2, none⟩ = some (.string ⟨t2.toArray⟩) := (hc2 _ _ hb).trans q2
    have Hr2 : Hid (Rdr (w2.setCell ⟨w1.heap.size, 0, none⟩ (.int .i64 v1)) w.heap.size p (eNum 0 t1)) := Bk.far hr2 (by simp; omega) _
    have Hb2 := Lib.hid (hb2.setCell (p := ⟨w1.heap.size, 0, none⟩) (by simp; omega) (.int .i64 v1))
    have HK2 : Hid (Bk (w2.setCell ⟨w1.heap.size, 0, none⟩ (.int .i64 v1)) w1.heap.size 93 #[.int .i64 v1, .int .i64 0]) := hk2.set 0 _
    clear hr2 hg2 hb2 hk2 hc1 hf1
    go_wp2_with fail
    refine (HN2.out _ _ _ (by exact Hr2.out) (by exact (HP.out.below Hb2.out).at.gm)).mono ?_
    rintro e w3 ⟨rfl, hr3, hg3⟩
    have hb3 := below_rdr Hb2.out hg3 (Nat.le_refl _)
    obtain ⟨hc3, hf3⟩ := bcell hb3
    have hk3 : Bk w3 w1.heap.size 93 #[.int .i64 v1, .int .i64 0] := Bk.kept2 hg3 HK2.out (by omega)
    have k3_0 : w3.cell? ⟨w1.heap.size, 0, none⟩ = some (.int .i64 v1) := hk3.cell 0
    have k3_1 : w3.cell? ⟨w1.heap.size, 1, none⟩ = some (.int .i64 0) := hk3.cell 1
    have y3 := hk3.frozen 1
    have hs3 := hk3.lt
    have Hr3 : Hid (Rdr (w3.setCell ⟨w1.heap.size, 1, none⟩ (.int .i64 v2)) w.heap.size p (eGl gl (eNum 0 t1) t2)) := Bk.far hr3 (by simp; omega) _
    have Hb3 := Lib.hid (hb3.setCell (p := ⟨w1.heap.size, 1, none⟩) (by simp; omega) (.int .i64 v2))
    have HK3 : Hid (Bk (w3.setCell ⟨w1.heap.size, 1, none⟩ (.int .i64 v2)) w1.heap.size 93 #[.int .i64 v1, .int .i64 v2]) := hk3.set 1 _
    clear hr3 hg3 hb3 hk3 hc2 hf2
    go_wp2_with fail
    obtain ⟨W1, hW1⟩ : ∃ W1, w3.setCell ⟨w1.heap.size, 1, none⟩ (.int .i64 v2) = W1 := ⟨_, rfl⟩
    rw [hW1]
    have Hr := Hr3
    have Hb := Hb3
    have HKb := HK3
    rw [hW1] at Hr Hb HKb
    have a_0 : W1.cell? ⟨w1.heap.size, 0, none⟩ = some (.int .i64 v1) := HKb.out.cell 0
    have a_1 : W1.cell? ⟨w1.heap.size, 1, none⟩ = some (.int .i64 v2) := HKb.out.cell 1
    have HPW := HP.out.below Hb.out
    have a_p : W1.cell? ⟨p, 2, none⟩ = some (.slice A0 (rv 1).n c0) := ((bcell Hb.out).1 _ _ hpb).trans kp
    have zp : p < W1.heap.size := HPW.par.lt
    have zc : w1.heap.size < W1.heap.size := HKb.out.lt
    have zr : w.heap.size < W1.heap.size := Hr.out.lt
    have hown := HPW.live.own 1 (by decide)
    rw [hv] at hown
    obtain ⟨A5, c5, w9, hrun, ho9, hg9, hl9⟩ := run_push elChar 25 W1 Bd _ c0 A0 _ #[.int .i64 v1, .int .i64 v2] rfl hown (by simp [Value.oneCell']) (by omega) (by omega)
    rw [← hv] at hg9 hl9
    have hp9 : Bk w9 p tPar (parCells s rv gm cm) := (HPW.row (i := 1) (by decide) (r := ⟨.slice A5 ((rv 1).n + 1) c5, _, _⟩) hg9 ho9 hl9).1
    have hr9 := Bk.grown Hr.out hg9 (HPW.live.own 1 (by decide)) (by decide)
    have x9 : w9.cell? ⟨p, 2, none⟩ = some (rv 1).v := hp9.cell 2
    have y9 := hp9.frozen 2
    have z9 : w9.cell? ⟨w.heap.size, 1, none⟩ = some (.int .i64 (eGl gl (eNum 0 t1) t2)) := hr9.cell 1
    generalize her : eGl gl (eNum 0 t1) t2 = er at *
    have Hpush := Lib.hid (PSt.more_chr (m := 1) (K' := K + n9 2) HPW hg9 ho9 hl9 (ys := [⟨v1, v2⟩]) rfl (Fl.one (R := ChrR) (⟨rfl, HI1.out, HI2.out⟩) rfl) (by unfold n9; simp))
    have Hlow := Lib.hid ((Hb.out.mono hB).trans (HPW.push_low (i := 1) (by decide) hg9 2 (.slice A5 ((rv 1).n + 1) c5) HPW.size))
    have HQ := Lib.hid (KQ.below (cm := cm) Hb.out)
    clear hW1 hown ho9 hg9 hl9 hp9 hr9 HPW
    go_region
    all_goals
      go_wp2
      go_ret
      exact StPost.fin HR.out Hlow.out (HQ.out.trans Hpush.out.2) Hpush.out.1
  · have HR := Lib.hid (rChar_no gl s l h1)
    have e1 : ((n : Int) == 3) = false := by simp; omega
    have e2 : ((n : Int) != 3) = true := by simp; omega
    clear hP hL hT h1 hn
    go_enter Tryz.func86, Tryz.ntmps86
    go_wp2
    go_ret
    exact StPost.bad HR.out (Below.refl _ _)
theorem rAxis_no (gl : Gl) (s : PS) (l : List B) (h : l.length ≠ 4) : rAxis s l = .error 22 := by
  unfold rAxis
  split
  · simp at h
  · rfl
set_option maxRecDepth 100000 in
set_option maxHeartbeats 4000000 in
theorem readAxis_ok (w : World) (Bd p gm cm : Nat) (gl : Gl) (s : PS) (rv : Rows) (K : Nat) (A : Option Addr) (n c : Nat) (ws : List P3) (t : B) (l : List B) (hP : PSt w Bd p gm cm gl s rv K) (hL : LnAt w A n ws) (hT : txts ws = t :: l) (hK : K ≤ 10000000000) :
    Calls Tryz.prog 74 #[.pointer (some ⟨p, 0, none⟩), .slice A n c] w (StPost w Bd p gm cm gl (K + n) (rAxis s l)) := by
  have hn : n = l.length + 1 := by rw [← hL.length]; exact txts_cons hT
  have hB := hP.size
  by_cases h1 : l.length = 4
  · obtain ⟨t1, t2, t3, t4, rfl⟩ : ∃ t1 t2 t3 t4, l = [t1, t2, t3, t4] := by
      match l, h1 with
      | [a1, a2, a3, a4], _ => exact ⟨a1, a2, a3, a4, rfl⟩
    obtain ⟨b, o, rfl, hb, q1, hz1⟩ := hL.word (k := 1) (t := t1) (by rw [hT]; rfl) (d := 3) rfl
    obtain ⟨b', o', e', -, q2, hz2⟩ := hL.word (k := 2) (t := t2) (by rw [hT]; rfl) (d := 6) rfl
    obtain ⟨rfl, rfl⟩ : b = b' ∧ o = o' := by simpa using e'
    clear e'
    obtain ⟨b', o', e', -, q3, hz3⟩ := hL.word (k := 3) (t := t3) (by rw [hT]; rfl) (d := 9) rfl
    obtain ⟨rfl, rfl⟩ : b = b' ∧ o = o' := by simpa using e'
    clear e'
    obtain ⟨b', o', e', -, q4, hz4⟩ := hL.word (k := 4) (t := t4) (by rw [hT]; rfl) (d := 12) rfl
    obtain ⟨rfl, rfl⟩ : b = b' ∧ o = o' := by simpa using e'
    clear e'
    simp only [List.length_cons, List.length_nil] at hn
    subst hn
    have HP := Lib.hid hP
    have hpb : p < w.heap.size := hP.par.lt
    obtain ⟨A0, c0, hv⟩ := hP.slice (i := 4) (by decide)
    have kp : w.cell? ⟨p, 5, none⟩ = some (rv 4).v := hP.par.cell 5
    rw [hv] at kp
    have fp := hP.par.frozen 5
    have hfew := hP.few 4 (by decide)
    have HR : Hid (rAxis s [t1, t2, t3, t4] = fin (eNum (eNum (eNum (eName 0 t1) t2) t3) t4) { s with f := { s.f with axes := s.f.axes ++ [⟨t1, numV t2, numV t3, numV t4⟩] } }) := rfl
    have HN1 := Lib.hid (fun w rb er h => name_ok w rb p er t1 h)
    have HN2 := Lib.hid (fun w rb er h => number_ok w rb p er t2 h hz2)
    have HI2 := Lib.hid (numV_i64 t2)
    have HN3 := Lib.hid (fun w rb er h => number_ok w rb p er t3 h hz3)
    have HI3 := Lib.hid (numV_i64 t3)
    have HN4 := Lib.hid (fun w rb er h => number_ok w rb p er t4 h hz4)
    have HI4 := Lib.hid (numV_i64 t4)
    generalize numV t2 = v2 at *
    generalize numV t3 = v3 at *
    generalize numV t4 = v4 at *
    clear hP hL hT h1 hz1 hz2 hz3 hz4
    go_enter Tryz.func74, Tryz.ntmps74
    go_wp2_with fail
    refine (read_ok w p).mono ?_
    rintro e w1 ⟨rfl, hr1, hb1⟩
    obtain ⟨hc1, hf1⟩ := bcell hb1
    have p1_1 : w1.cell? ⟨b, o + 3 + 2, none⟩ = some (.string ⟨t1.toArray⟩) := (hc1 _ _ hb).trans q1
    have hl1 := hr1.lt
    have hs1 := hb1.size
    have hbl : b < w1.heap.size := by omega
    have hbc : b ≠ w1.heap.size := by omega
    have hpc : p ≠ w1.heap.size := by omega
    have Hr1 := Lib.hid (hr1.alloc (.cells #[.string ⟨#[]⟩, .int .i64 0, .int .i64 0, .int .i64 0] 99))
    have Hb1 := Lib.hid (hb1.alloc hs1 (.cells #[.string ⟨#[]⟩, .int .i64 0, .int .i64 0, .int .i64 0] 99))
    have HK1 : Hid (Bk (w1.alloc (.cells #[.string ⟨#[]⟩, .int .i64 0, .int .i64 0, .int .i64 0] 99)) w1.heap.size 99 #[.string ⟨#[]⟩, .int .i64 0, .int .i64 0, .int .i64 0]) := Bk.new _ _ _
    clear hr1 hb1
    go_wp2_with fail
    refine (HN1.out _ _ _ (by exact Hr1.out)).mono ?_
    rintro e w2 ⟨rfl, hr2, hg2⟩
    have hb2 := below_rdr Hb1.out hg2 (Nat.le_refl _)
    obtain ⟨hc2, hf2⟩ := bcell hb2
    have hk2 : Bk w2 w1.heap.size 99 #[.string ⟨#[]⟩, .int .i64 0, .int .i64 0, .int .i64 0] := Bk.kept2 hg2 HK1.out (by omega)
    have k2_0 : w2.cell? ⟨w1.heap.size, 0, none⟩ = some (.string ⟨#[]⟩) := hk2.cell 0
    have k2_1 : w2.cell? ⟨w1.heap.size, 1, none⟩ = some (.int .i64 0) := hk2.cell 1
    have k2_2 : w2.cell? ⟨w1.heap.size, 2, none⟩ = some (.int .i64 0) := hk2.cell 2
    have k2_3 : w2.cell? ⟨w1.heap.size, 3, none⟩ = some (.int .i64 0) := hk2.cell 3
    have y2 := hk2.frozen 0
    have hs2 := hk2.lt
    have p2_2 : w2.cell? ⟨b, o + 6 + 2, none⟩ = some (.string ⟨t2.toArray⟩) := (hc2 _ _ hb).trans q2
    have p2_3 : w2.cell? ⟨b, o + 9 + 2, none⟩ = some (.string ⟨t3.toArray⟩) := (hc2 _ _ hb).trans q3
    have p2_4 : w2.cell? ⟨b, o + 12 + 2, none⟩ = some (.string ⟨t4.toArray⟩) := (hc2 _ _ hb).trans q4
    have Hr2 : Hid (Rdr (w2.setCell ⟨w1.heap.size, 0, none⟩ (.string ⟨t1.toArray⟩)) w.heap.size p (eName 0 t1)) := Bk.far hr2 (by simp; omega) _
    have Hb2 := Lib.hid (hb2.setCell (p := ⟨w1.heap.size, 0, none⟩) (by simp; omega) (.string ⟨t1.toArray⟩))
    have HK2 : Hid (Bk (w2.setCell ⟨w1.heap.size, 0, none⟩ (.string ⟨t1.toArray⟩)) w1.heap.size 99 #[.string ⟨t1.toArray⟩, .int .i64 0, .int .i64 0, .int .i64 0]) := hk2.set 0 _
    clear hr2 hg2 hb2 hk2 hc1 hf1
    go_wp2_with fail
    refine (HN2.out _ _ _ (by exact Hr2.out)).mono ?_
    rintro e w3 ⟨rfl, hr3, hg3⟩
    have hb3 := below_rdr Hb2.out hg3 (Nat.le_refl _)
    obtain ⟨hc3, hf3⟩ := bcell hb3
    have hk3 : Bk w3 w1.heap.size 99 #[.string ⟨t1.toArray⟩, .int .i64 0, .int .i64 0, .int .i64 0] := Bk.kept2 hg3 HK2.out (by omega)
    have k3_0 : w3.cell? ⟨w1.heap.size, 0, none⟩ = some (.string ⟨t1.toArray⟩) := hk3.cell 0
    have k3_1 : w3.cell? ⟨w1.heap.size, 1, none⟩ = some (.int .i64 0) := hk3.cell 1
    have k3_2 : w3.cell? ⟨w1.heap.size, 2, none⟩ = some (.int .i64 0) := hk3.cell 2
    have k3_3 : w3.cell? ⟨w1.heap.size, 3, none⟩ = some (.int .i64 0) := hk3.cell 3
    have y3 := hk3.frozen 1
    have hs3 := hk3.lt
    have p3_3 : w3.cell? ⟨b, o + 9 + 2, none⟩ = some (.string ⟨t3.toArray⟩) := (hc3 _ _ hb).trans q3
    have p3_4 : w3.cell? ⟨b, o + 12 + 2, none⟩ = some (.string ⟨t4.toArray⟩) := (hc3 _ _ hb).trans q4
    have Hr3 : Hid (Rdr (w3.setCell ⟨w1.heap.size, 1, none⟩ (.int .i64 v2)) w.heap.size p (eNum (eName 0 t1) t2)) := Bk.far hr3 (by simp; omega) _
    have Hb3 := Lib.hid (hb3.setCell (p := ⟨w1.heap.size, 1, none⟩) (by simp; omega) (.int .i64 v2))
    have HK3 : Hid (Bk (w3.setCell ⟨w1.heap.size, 1, none⟩ (.int .i64 v2)) w1.heap.size 99 #[.string ⟨t1.toArray⟩, .int .i64 v2, .int .i64 0, .int .i64 0]) := hk3.set 1 _
    clear hr3 hg3 hb3 hk3 hc2 hf2
    go_wp2_with fail
    refine (HN3.out _ _ _ (by exact Hr3.out)).mono ?_
    rintro e w4 ⟨rfl, hr4, hg4⟩
    have hb4 := below_rdr Hb3.out hg4 (Nat.le_refl _)
    obtain ⟨hc4, hf4⟩ := bcell hb4
    have hk4 : Bk w4 w1.heap.size 99 #[.string ⟨t1.toArray⟩, .int .i64 v2, .int .i64 0, .int .i64 0] := Bk.kept2 hg4 HK3.out (by omega)
    have k4_0 : w4.cell? ⟨w1.heap.size, 0, none⟩ = some (.string ⟨t1.toArray⟩) := hk4.cell 0
    have k4_1 : w4.cell? ⟨w1.heap.size, 1, none⟩ = some (.int .i64 v2) := hk4.cell 1
    have k4_2 : w4.cell? ⟨w1.heap.size, 2, none⟩ = some (.int .i64 0) := hk4.cell 2
    have k4_3 : w4.cell? ⟨w1.heap.size, 3, none⟩ = some (.int .i64 0) := hk4.cell 3
    have y4 := hk4.frozen 2
    have hs4 := hk4.lt
    have p4_4 : w4.cell? ⟨b, o + 12 + 2, none⟩ = some (.string ⟨t4.toArray⟩) := (hc4 _ _ hb).trans q4
    have Hr4 : Hid (Rdr (w4.setCell ⟨w1.heap.size, 2, none⟩ (.int .i64 v3)) w.heap.size p (eNum (eNum (eName 0 t1) t2) t3)) := Bk.far hr4 (by simp; omega) _
    have Hb4 := Lib.hid (hb4.setCell (p := ⟨w1.heap.size, 2, none⟩) (by simp; omega) (.int .i64 v3))
    have HK4 : Hid (Bk (w4.setCell ⟨w1.heap.size, 2, none⟩ (.int .i64 v3)) w1.heap.size 99 #[.string ⟨t1.toArray⟩, .int .i64 v2, .int .i64 v3, .int .i64 0]) := hk4.set 2 _
    clear hr4 hg4 hb4 hk4 hc3 hf3
    go_wp2_with fail
    refine (HN4.out _ _ _ (by exact Hr4.out)).mono ?_
    rintro e w5 ⟨rfl, hr5, hg5⟩
    have hb5 := below_rdr Hb4.out hg5 (Nat.le_refl _)
    obtain ⟨hc5, hf5⟩ := bcell hb5
    have hk5 : Bk w5 w1.heap.size 99 #[.string ⟨t1.toArray⟩, .int .i64 v2, .int .i64 v3, .int .i64 0] := Bk.kept2 hg5 HK4.out (by omega)
    have k5_0 : w5.cell? ⟨w1.heap.size, 0, none⟩ = some (.string ⟨t1.toArray⟩) := hk5.cell 0
    have k5_1 : w5.cell? ⟨w1.heap.size, 1, none⟩ = some (.int .i64 v2) := hk5.cell 1
    have k5_2 : w5.cell? ⟨w1.heap.size, 2, none⟩ = some (.int .i64 v3) := hk5.cell 2
    have k5_3 : w5.cell? ⟨w1.heap.size, 3, none⟩ = some (.int .i64 0) := hk5.cell 3
    have y5 := hk5.frozen 3
    have hs5 := hk5.lt
    have Hr5 : Hid (Rdr (w5.setCell ⟨w1.heap.size, 3, none⟩ (.int .i64 v4)) w.heap.size p (eNum (eNum (eNum (eName 0 t1) t2) t3) t4)) := Bk.far hr5 (by simp; omega) _
    have Hb5 := Lib.hid (hb5.setCell (p := ⟨w1.heap.size, 3, none⟩) (by simp; omega) (.int .i64 v4))
    have HK5 : Hid (Bk (w5.setCell ⟨w1.heap.size, 3, none⟩ (.int .i64 v4)) w1.heap.size 99 #[.string ⟨t1.toArray⟩, .int .i64 v2, .int .i64 v3, .int .i64 v4]) := hk5.set 3 _
    clear hr5 hg5 hb5 hk5 hc4 hf4
    go_wp2_with fail
    obtain ⟨W1, hW1⟩ : ∃ W1, w5.setCell ⟨w1.heap.size, 3, none⟩ (.int .i64 v4) = W1 := ⟨_, rfl⟩
    rw [hW1]
    have Hr := Hr5
    have Hb := Hb5
    have HKb := HK5
    rw [hW1] at Hr Hb HKb
    have a_0 : W1.cell? ⟨w1.heap.size, 0, none⟩ = some (.string ⟨t1.toArray⟩) := HKb.out.cell 0
    have a_1 : W1.cell? ⟨w1.heap.size, 1, none⟩ = some (.int .i64 v2) := HKb.out.cell 1
    have a_2 : W1.cell? ⟨w1.heap.size, 2, none⟩ = some (.int .i64 v3) := HKb.out.cell 2
    have a_3 : W1.cell? ⟨w1.heap.size, 3, none⟩ = some (.int .i64 v4) := HKb.out.cell 3
    have HPW := HP.out.below Hb.out
    have a_p : W1.cell? ⟨p, 5, none⟩ = some (.slice A0 (rv 4).n c0) := ((bcell Hb.out).1 _ _ hpb).trans kp
    have zp : p < W1.heap.size := HPW.par.lt
    have zc : w1.heap.size < W1.heap.size := HKb.out.lt
    have zr : w.heap.size < W1.heap.size := Hr.out.lt
    have hown := HPW.live.own 4 (by decide)
    rw [hv] at hown
    obtain ⟨A5, c5, w9, hrun, ho9, hg9, hl9⟩ := run_push elAxis 28 W1 Bd _ c0 A0 _ #[.string ⟨t1.toArray⟩, .int .i64 v2, .int .i64 v3, .int .i64 v4] rfl hown (by simp [Value.oneCell']) (by omega) (by omega)
    rw [← hv] at hg9 hl9
    have hp9 : Bk w9 p tPar (parCells s rv gm cm) := (HPW.row (i := 4) (by decide) (r := ⟨.slice A5 ((rv 4).n + 1) c5, _, _⟩) hg9 ho9 hl9).1
    have hr9 := Bk.grown Hr.out hg9 (HPW.live.own 4 (by decide)) (by decide)
    have x9 : w9.cell? ⟨p, 5, none⟩ = some (rv 4).v := hp9.cell 5
    have y9 := hp9.frozen 5
    have z9 : w9.cell? ⟨w.heap.size, 1, none⟩ = some (.int .i64 (eNum (eNum (eNum (eName 0 t1) t2) t3) t4)) := hr9.cell 1
    generalize her : eNum (eNum (eNum (eName 0 t1) t2) t3) t4 = er at *
    have Hpush := Lib.hid (PSt.more_axs (m := 1) (K' := K + n9 4) HPW hg9 ho9 hl9 (ys := [⟨t1, v2, v3, v4⟩]) rfl (Fl.one (R := AxisR) (⟨rfl, HI2.out, HI3.out, HI4.out⟩) rfl) (by unfold n9; simp))
    have Hlow := Lib.hid ((Hb.out.mono hB).trans (HPW.push_low (i := 4) (by decide) hg9 5 (.slice A5 ((rv 4).n + 1) c5) HPW.size))
    have HQ := Lib.hid (KQ.below (cm := cm) Hb.out)
    clear hW1 hown ho9 hg9 hl9 hp9 hr9 HPW
    go_region
    all_goals
      go_wp2
      go_ret
      exact StPost.fin HR.out Hlow.out (HQ.out.trans Hpush.out.2) Hpush.out.1
  · have HR := Lib.hid (rAxis_no gl s l h1)
    have e1 : ((n : Int) == 5) = false := by simp; omega
    have e2 : ((n : Int) != 5) = true := by simp; omega
    clear hP hL hT h1 hn
    go_enter Tryz.func74, Tryz.ntmps74
    go_wp2
    go_ret
    exact StPost.bad HR.out (Below.refl _ _)
end Go.Proofs.YtkijckccfookeaaGreatDoor
/- parse: cvt. -/
namespace Go.Proofs.YtkijckccfookeaaGreatDoor
open Go.RowKit
attribute [-go_sem] Builtin.append_

theorem int_fl (w : World) (S : Bs) (l : List Int) (h : ∀ x ∈ l, I64 x) : Fl IntR 1 w S (cIs l) l := by
  induction l with
  | nil => exact Fl.nil
  | cons x r ih => exact (Fl.one (R := IntR) (cs := [.int .i64 x]) ⟨rfl, h x (by simp)⟩ rfl).append (ih (fun y hy => h y (by simp [hy])))
theorem nums_i64 (l : List B) : ∀ x ∈ l.map numV, I64 x := by
  intro x hx
  rw [List.mem_map] at hx
  obtain ⟨t, _, rfl⟩ := hx
  exact numV_i64 t
theorem LnAt.below {w w' : World} {A : Option Addr} {n : Nat} {ws : List P3} (h : LnAt w A n ws) (hb : Below w.heap.size w w') : LnAt w' A n ws := ⟨h.rd.below hb, h.len, h.few⟩
theorem eNums_foldl (e : Int) (l : List B) : eNums e l = l.foldl eNum e := rfl
set_option maxRecDepth 100000 in
set_option maxHeartbeats 4000000 in
theorem readCvt_ok (w : World) (Bd p gm cm : Nat) (gl : Gl) (s : PS) (rv : Rows) (K : Nat) (A : Option Addr) (n c : Nat) (ws : List P3) (t : B) (l : List B) (hP : PSt w Bd p gm cm gl s rv K) (hL : LnAt w A n ws) (hT : txts ws = t :: l) (hK : K ≤ 10000000000) (hc : n ≤ c) :
    Calls Tryz.prog 76 #[.pointer (some ⟨p, 0, none⟩), .slice A n c] w (StPost w Bd p gm cm gl (K + n) (rCvt s l)) := by
  have hn : n = l.length + 1 := by rw [← hL.length]; exact txts_cons hT
  have hB := hP.size
  have HP := Lib.hid hP
  have hpb : p < w.heap.size := hP.par.lt
  obtain ⟨A0, c0, hv⟩ := hP.slice (i := 7) (by decide)
  have kp : w.cell? ⟨p, 8, none⟩ = some (rv 7).v := hP.par.cell 8
  rw [hv] at kp
  have fp := hP.par.frozen 8
  have hfew := hP.few 7 (by decide)
  have HR : Hid (rCvt s l = fin (eNums 0 l) { s with f := { s.f with cvt := s.f.cvt ++ l.map numV } }) := rfl
  obtain ⟨A', hsub, hrd, hlen⟩ := hL.sub hc 1 1 rfl (by omega)
  have hns := Lib.hid (fun w1 rb (hr : Rdr w1 rb p 0) (hb : Below w.heap.size w w1) => numbers_ok w1 rb p 0 A' (n - 1) (c - 1) (ws.drop 1) hr (hrd.below hb) hlen (by have := hL.few; omega))
  rw [txts_rest hT] at hns
  have hll : l.length = n - 1 := by omega
  have hnn := hL.few
  have hfl := Lib.hid (fun (w : World) S => int_fl w S (l.map numV) (nums_i64 l))
  have hlm : Hid (n - 1 = (l.map numV).length) := by show _ = _; simp [hll]
  clear hP hL hT hrd hlen hll hn
  go_enter Tryz.func76, Tryz.ntmps76
  go_wp2_with fail
  refine (read_ok w p).mono ?_
  rintro e w1 ⟨rfl, hr1, hb1⟩
  have k1 : w1.cell? ⟨p, 8, none⟩ = some (.slice A0 (rv 7).n c0) := ((bcell hb1).1 _ _ hpb).trans kp
  have hz1 := hb1.size
  have Hr1 := Lib.hid hr1
  have Hb1 := Lib.hid hb1
  clear hr1 hb1
  go_wp2_with fail
  have k1d : w1.drew.cell? ⟨p, 8, none⟩ = some (.slice A0 (rv 7).n c0) := k1
  go_region_with (go_at_call 124; refine (hns.out _ _ (by exact Hr1.out) (by exact Hb1.out.drew)).mono ?_; rintro e w2 ⟨v, rfl, A4, c4, rfl, ho4, hr4, hg4⟩; have hb2 := below_rdr Hb1.out.drew hg4 (Nat.le_refl _); have HPW := HP.out.below hb2; have hown := HPW.live.own 7 (by decide); rw [hv] at hown; have hrd4 := (own_rdT ho4).rd; obtain ⟨A5, c5, w9, hrun, ho9, hg9, hl9⟩ := run_more elInt 22 w2 Bd _ c0 A0 _ _ A4 (n - 1) c4 _ hown hrd4 (cIs_oneCell _) (by omega) HPW.size; have k2 : w2.cell? ⟨p, 8, none⟩ = some (.slice A0 (rv 7).n c0) := ((bcell hb2).1 _ _ hpb).trans kp; rw [← hv] at hg9 hl9; have hp9 : Bk w9 p tPar (parCells s rv gm cm) := (HPW.row (i := 7) (by decide) (r := ⟨.slice A5 ((rv 7).n + (n - 1)) c5, _, _⟩) hg9 ho9 hl9).1; have hr9 := Bk.grown hr4 hg9 (HPW.live.own 7 (by decide)) (by decide); have x9 : w9.cell? ⟨p, 8, none⟩ = some (rv 7).v := hp9.cell 8; have y9 := hp9.frozen 8; have z9 : w9.cell? ⟨w.heap.size, 1, none⟩ = some (.int .i64 (eNums 0 l)) := hr9.cell 1; have Hpush := Lib.hid (PSt.more_cvt (m := n - 1) (K' := K + n) HPW hg9 ho9 hl9 hlm.out (hfl.out _ _) (by omega)); have Hlow := Lib.hid ((hb2.mono hB).trans (HPW.push_low (i := 7) (by decide) hg9 8 (.slice A5 ((rv 7).n + (n - 1)) c5) HPW.size)); have HQ := Lib.hid (KQ.below (cm := cm) hb2); clear hown ho9 hg9 hl9 hp9 hr9 HPW hb2 ho4 hr4 hg4 hrd4)
  all_goals
    go_wp2
    go_ret
    exact StPost.fin HR.out Hlow.out (HQ.out.trans Hpush.out.2) Hpush.out.1
end Go.Proofs.YtkijckccfookeaaGreatDoor
