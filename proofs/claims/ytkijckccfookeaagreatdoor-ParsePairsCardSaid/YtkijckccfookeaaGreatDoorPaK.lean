/- parse: part, delta, hint, func, feature. Printed by gen_pak.py. -/
import Derived.Test.YtkijckccfookeaaGreatDoorPaGl
import Derived.Test.YtkijckccfookeaaGreatDoorM17
namespace Go.Proofs.YtkijckccfookeaaGreatDoor
open Go.RowKit
attribute [-go_sem] Builtin.append_

theorem onLast_eq (s : PS) (h : Glyph → Glyph) {init : List Glyph} {g : Glyph} (hs : s.f.glyphs = init ++ [g]) : onLast s h = { s with f := { s.f with glyphs := init ++ [h g] } } := by
  unfold onLast
  rw [hs]
  simp
theorem gl_ne {s : PS} {init : List Glyph} {g : Glyph} (hs : s.f.glyphs = init ++ [g]) : s.f.glyphs ≠ [] := by rw [hs]; simp
theorem ins_fl (w : World) (S : Bs) (l : List Ins) (h : ∀ x ∈ l, I64 x.op ∧ I64 x.a) : Fl InsR 2 w S (insC l) l := by
  induction l with
  | nil => exact Fl.nil
  | cons x r ih => exact (Fl.one (R := InsR) (cs := [.int .i64 x.op, .int .i64 x.a]) ⟨rfl, (h x (by simp)).1, (h x (by simp)).2⟩ rfl).append (ih (fun y hy => h y (by simp [hy])))
theorem opN_i64 (t : B) : I64 (opN t) := by
  unfold opN
  split
  · have := List.findIdx_le_length (p := (· == t)) (xs := opNames)
    rw [ops_len] at this
    exact ⟨by omega, by omega⟩
  · exact ⟨by decide, by decide⟩
theorem vOp_i64 (l : List B) : ∀ x ∈ l.map vOp, I64 x.op ∧ I64 x.a := by
  intro x hx
  rw [List.mem_map] at hx
  obtain ⟨t, _, rfl⟩ := hx
  refine ⟨opN_i64 _, ?_⟩
  have : (vOp t).a = if t.contains 58 then numV (cutR 58 t) else 0 := rfl
  rw [this]
  split
  · exact numV_i64 _
  · exact ⟨by decide, by decide⟩
theorem pt_fl (w : World) (S : Bs) (l : List Pt) (h : ∀ x ∈ l, I64 x.x ∧ I64 x.y) : Fl PtR 3 w S (ptC l) l := by
  induction l with
  | nil => exact Fl.nil
  | cons x r ih => exact (Fl.one (R := PtR) (cs := [.int .i64 x.x, .int .i64 x.y, .bool x.on]) ⟨rfl, (h x (by simp)).1, (h x (by simp)).2⟩ rfl).append (ih (fun y hy => h y (by simp [hy])))
theorem vPt_i64 (l : List B) : ∀ x ∈ l.map vPt, I64 x.x ∧ I64 x.y := by
  intro x hx
  rw [List.mem_map] at hx
  obtain ⟨t, _, rfl⟩ := hx
  exact ⟨numV_i64 _, numV_i64 _⟩
theorem insC_one (l : List Ins) : ∀ u ∈ insC l, u.oneCell' = true := by
  intro u hu
  simp only [insC, List.mem_flatMap, List.mem_cons, List.not_mem_nil, or_false] at hu
  obtain ⟨x, _, rfl | rfl⟩ := hu <;> rfl
theorem ptC_one (l : List Pt) : ∀ u ∈ ptC l, u.oneCell' = true := by
  intro u hu
  simp only [ptC, List.mem_flatMap, List.mem_cons, List.not_mem_nil, or_false] at hu
  obtain ⟨x, _, rfl | rfl | rfl⟩ := hu <;> rfl
/-- a row that a call has laid lies beside all that is written on -/
theorem PSt.fresh {w w2 : World} {Bd p gm cm : Nat} {gl : Gl} {s : PS} {rv : Rows} {K : Nat} (h : PSt w Bd p gm cm gl s rv K) {base e size n c : Nat} {A : Option Addr} {xs : List Value} (ho : w2.ownsRow base e size (.slice A n c) n xs) (hb : w.heap.size ≤ base) (hd : dataT e = true) : ∀ g, (Value.slice A n c).ownBlock = some g → Fz w2 rv g := by
  intro g hg
  obtain ⟨cur, hk⟩ := ownBlock_bk ho hg
  refine ⟨cur, e, hk, hd, fun j hj e' => ?_⟩
  have h1 := ((h.live.own j hj).lt g e').2
  have h2 := (ho.lt g hg).1
  omega
theorem rPart_no (gl : Gl) (s : PS) (l : List B) (h : l.length ≠ 3) : rPart gl s l = .error 22 := by
  unfold rPart
  split
  · rfl
  · split
    · simp at h
    · rfl
set_option maxRecDepth 100000 in
set_option maxHeartbeats 4000000 in
theorem readPart_ok (w : World) (Bd p gm cm : Nat) (gl : Gl) (s : PS) (rv : Rows) (K : Nat) (A : Option Addr) (n c : Nat) (ws : List P3) (t : B) (l : List B) (hP : PSt w Bd p gm cm gl s rv K) (hL : LnAt w A n ws) (hT : txts ws = t :: l) (hK : K ≤ 10000000000) {init : List Glyph} {g : Glyph} (hs : s.f.glyphs = init ++ [g]) {G n0 c9 q : Nat} (h0 : (rv 0).v = .slice (some ⟨G, 0, none⟩) n0 c9) (hq : q = init.length * 9) :
    Calls Tryz.prog 82 #[.pointer (some ⟨p, 0, none⟩), .slice A n c, .pointer (some ⟨G, q, none⟩)] w (StPost w Bd p gm cm gl (K + n) (rPart gl s l)) := by
  have hn : n = l.length + 1 := by rw [← hL.length]; exact txts_cons hT
  have hB := hP.size
  by_cases h1 : l.length = 3
  · obtain ⟨t1, t2, t3, rfl⟩ : ∃ t1 t2 t3, l = [t1, t2, t3] := by
      match l, h1 with
      | [a1, a2, a3], _ => exact ⟨a1, a2, a3, rfl⟩
    obtain ⟨b, o, rfl, hb, q1, hz1⟩ := hL.word (k := 1) (t := t1) (by rw [hT]; rfl) (d := 3) rfl
    obtain ⟨b', o', e', -, q2, hz2⟩ := hL.word (k := 2) (t := t2) (by rw [hT]; rfl) (d := 6) rfl
    obtain ⟨rfl, rfl⟩ : b = b' ∧ o = o' := by simpa using e'
    clear e'
    obtain ⟨b', o', e', -, q3, hz3⟩ := hL.word (k := 3) (t := t3) (by rw [hT]; rfl) (d := 9) rfl
    obtain ⟨rfl, rfl⟩ : b = b' ∧ o = o' := by simpa using e'
    clear e'
    simp only [List.length_cons, List.length_nil] at hn
    subst hn
    have HP := Lib.hid hP
    obtain ⟨G', c9', ci, gv, -, -, hGb, gcell, gfz, gbk⟩ := hP.glyph_cells hs
    obtain ⟨rfl, hn0, rfl⟩ : G' = G ∧ init.length + 1 = n0 ∧ c9' = c9 := by rw [gv] at h0; simpa using h0
    have hpb : G' < w.heap.size := hGb
    obtain ⟨A0, c0, hv⟩ := hP.slice (i := 10) (by decide)
    have kp : w.cell? ⟨G', q + 5, none⟩ = some (rv 10).v := by rw [hq]; exact gcell 5 (by decide)
    rw [hv] at kp
    have fp := gfz (q + 5)
    have hfew := hP.few 10 (by decide)
    have HR : Hid (rPart gl s [t1, t2, t3] = fin (eNum (eNum (eGl gl 0 t1) t2) t3) { s with f := { s.f with glyphs := init ++ [{ g with parts := g.parts ++ [⟨vGl gl t1, numV t2, numV t3⟩] }] } }) := by
      show _ = _
      unfold rPart
      rw [if_neg (gl_ne hs)]
      simp only
      rw [onLast_eq s _ hs]
    have Hs := Lib.hid hs
    have Hq := Lib.hid hq
    have H0 := Lib.hid h0
    have Hgbk := Lib.hid gbk
    have HN1 := Lib.hid (fun w rb er h hm => glyph_ok w rb p gm gl er t1 h hm)
    have HI1 := Lib.hid (vGl_i64 hP.glI t1)
    have HN2 := Lib.hid (fun w rb er h => number_ok w rb p er t2 h hz2)
    have HI2 := Lib.hid (numV_i64 t2)
    have HN3 := Lib.hid (fun w rb er h => number_ok w rb p er t3 h hz3)
    have HI3 := Lib.hid (numV_i64 t3)
    generalize vGl gl t1 = v1 at *
    generalize numV t2 = v2 at *
    generalize numV t3 = v3 at *
    clear hP hL hT h1 hz1 hz2 hz3 hs hq h0 gv gcell gfz gbk hn0
    go_enter Tryz.func82, Tryz.ntmps82
    go_wp2_with fail
    refine (read_ok w p).mono ?_
    rintro e w1 ⟨rfl, hr1, hb1⟩
    obtain ⟨hc1, hf1⟩ := bcell hb1
    have p1_1 : w1.cell? ⟨b, o + 3 + 2, none⟩ = some (.string ⟨t1.toArray⟩) := (hc1 _ _ hb).trans q1
    have hl1 := hr1.lt
    have hs1 := hb1.size
    have hbl : b < w1.heap.size := by omega
    have hbc : b ≠ w1.heap.size := by omega
    have hpc : G' ≠ w1.heap.size := by omega
    have Hr1 := Lib.hid (hr1.alloc (.cells #[.int .i64 0, .int .i64 0, .int .i64 0] 87))
    have Hb1 := Lib.hid (hb1.alloc hs1 (.cells #[.int .i64 0, .int .i64 0, .int .i64 0] 87))
    have HK1 : Hid (Bk (w1.alloc (.cells #[.int .i64 0, .int .i64 0, .int .i64 0] 87)) w1.heap.size 87 #[.int .i64 0, .int .i64 0, .int .i64 0]) := Bk.new _ _ _
    clear hr1 hb1
    go_wp2_with fail
    refine (HN1.out _ _ _ (by exact Hr1.out) (by exact (HP.out.below Hb1.out).at.gm)).mono ?_
    rintro e w2 ⟨rfl, hr2, hg2⟩
    have hb2 := below_rdr Hb1.out hg2 (Nat.le_refl _)
    obtain ⟨hc2, hf2⟩ := bcell hb2
    have hk2 : Bk w2 w1.heap.size 87 #[.int .i64 0, .int .i64 0, .int .i64 0] := Bk.kept2 hg2 HK1.out (by omega)
    have k2_0 : w2.cell? ⟨w1.heap.size, 0, none⟩ = some (.int .i64 0) := hk2.cell 0
    have k2_1 : w2.cell? ⟨w1.heap.size, 1, none⟩ = some (.int .i64 0) := hk2.cell 1
    have k2_2 : w2.cell? ⟨w1.heap.size, 2, none⟩ = some (.int .i64 0) := hk2.cell 2
    have y2 := hk2.frozen 0
    have hs2 := hk2.lt
    have p2_2 : w2.cell? ⟨b, o + 6 + 2, none⟩ = some (.string ⟨t2.toArray⟩) := (hc2 _ _ hb).trans q2
    have p2_3 : w2.cell? ⟨b, o + 9 + 2, none⟩ = some (.string ⟨t3.toArray⟩) := (hc2 _ _ hb).trans q3
    have Hr2 : Hid (Rdr (w2.setCell ⟨w1.heap.size, 0, none⟩ (.int .i64 v1)) w.heap.size p (eGl gl 0 t1)) := Bk.far hr2 (by simp; omega) _
    have Hb2 := Lib.hid (hb2.setCell (p := ⟨w1.heap.size, 0, none⟩) (by simp; omega) (.int .i64 v1))
    have HK2 : Hid (Bk (w2.setCell ⟨w1.heap.size, 0, none⟩ (.int .i64 v1)) w1.heap.size 87 #[.int .i64 v1, .int .i64 0, .int .i64 0]) := hk2.set 0 _
    clear hr2 hg2 hb2 hk2 hc1 hf1
    go_wp2_with fail
    refine (HN2.out _ _ _ (by exact Hr2.out)).mono ?_
    rintro e w3 ⟨rfl, hr3, hg3⟩
    have hb3 := below_rdr Hb2.out hg3 (Nat.le_refl _)
    obtain ⟨hc3, hf3⟩ := bcell hb3
    have hk3 : Bk w3 w1.heap.size 87 #[.int .i64 v1, .int .i64 0, .int .i64 0] := Bk.kept2 hg3 HK2.out (by omega)
    have k3_0 : w3.cell? ⟨w1.heap.size, 0, none⟩ = some (.int .i64 v1) := hk3.cell 0
    have k3_1 : w3.cell? ⟨w1.heap.size, 1, none⟩ = some (.int .i64 0) := hk3.cell 1
    have k3_2 : w3.cell? ⟨w1.heap.size, 2, none⟩ = some (.int .i64 0) := hk3.cell 2
    have y3 := hk3.frozen 1
    have hs3 := hk3.lt
    have p3_3 : w3.cell? ⟨b, o + 9 + 2, none⟩ = some (.string ⟨t3.toArray⟩) := (hc3 _ _ hb).trans q3
    have Hr3 : Hid (Rdr (w3.setCell ⟨w1.heap.size, 1, none⟩ (.int .i64 v2)) w.heap.size p (eNum (eGl gl 0 t1) t2)) := Bk.far hr3 (by simp; omega) _
    have Hb3 := Lib.hid (hb3.setCell (p := ⟨w1.heap.size, 1, none⟩) (by simp; omega) (.int .i64 v2))
    have HK3 : Hid (Bk (w3.setCell ⟨w1.heap.size, 1, none⟩ (.int .i64 v2)) w1.heap.size 87 #[.int .i64 v1, .int .i64 v2, .int .i64 0]) := hk3.set 1 _
    clear hr3 hg3 hb3 hk3 hc2 hf2
    go_wp2_with fail
    refine (HN3.out _ _ _ (by exact Hr3.out)).mono ?_
    rintro e w4 ⟨rfl, hr4, hg4⟩
    have hb4 := below_rdr Hb3.out hg4 (Nat.le_refl _)
    obtain ⟨hc4, hf4⟩ := bcell hb4
    have hk4 : Bk w4 w1.heap.size 87 #[.int .i64 v1, .int .i64 v2, .int .i64 0] := Bk.kept2 hg4 HK3.out (by omega)
    have k4_0 : w4.cell? ⟨w1.heap.size, 0, none⟩ = some (.int .i64 v1) := hk4.cell 0
    have k4_1 : w4.cell? ⟨w1.heap.size, 1, none⟩ = some (.int .i64 v2) := hk4.cell 1
    have k4_2 : w4.cell? ⟨w1.heap.size, 2, none⟩ = some (.int .i64 0) := hk4.cell 2
    have y4 := hk4.frozen 2
    have hs4 := hk4.lt
    have Hr4 : Hid (Rdr (w4.setCell ⟨w1.heap.size, 2, none⟩ (.int .i64 v3)) w.heap.size p (eNum (eNum (eGl gl 0 t1) t2) t3)) := Bk.far hr4 (by simp; omega) _
    have Hb4 := Lib.hid (hb4.setCell (p := ⟨w1.heap.size, 2, none⟩) (by simp; omega) (.int .i64 v3))
    have HK4 : Hid (Bk (w4.setCell ⟨w1.heap.size, 2, none⟩ (.int .i64 v3)) w1.heap.size 87 #[.int .i64 v1, .int .i64 v2, .int .i64 v3]) := hk4.set 2 _
    clear hr4 hg4 hb4 hk4 hc3 hf3
    go_wp2_with fail
    obtain ⟨W1, hW1⟩ : ∃ W1, w4.setCell ⟨w1.heap.size, 2, none⟩ (.int .i64 v3) = W1 := ⟨_, rfl⟩
    rw [hW1]
    have Hr := Hr4
    have Hb := Hb4
    have HKb := HK4
    rw [hW1] at Hr Hb HKb
    have a_0 : W1.cell? ⟨w1.heap.size, 0, none⟩ = some (.int .i64 v1) := HKb.out.cell 0
    have a_1 : W1.cell? ⟨w1.heap.size, 1, none⟩ = some (.int .i64 v2) := HKb.out.cell 1
    have a_2 : W1.cell? ⟨w1.heap.size, 2, none⟩ = some (.int .i64 v3) := HKb.out.cell 2
    have HPW := HP.out.below Hb.out
    have a_p : W1.cell? ⟨G', q + 5, none⟩ = some (.slice A0 (rv 10).n c0) := ((bcell Hb.out).1 _ _ hpb).trans kp
    have zp : G' < W1.heap.size := Nat.lt_of_lt_of_le hpb Hb.out.size
    have zc : w1.heap.size < W1.heap.size := HKb.out.lt
    have zr : w.heap.size < W1.heap.size := Hr.out.lt
    have hown := HPW.live.own 10 (by decide)
    rw [hv] at hown
    obtain ⟨A5, c5, w9, hrun, ho9, hg9, hl9⟩ := run_push elPart 54 W1 Bd _ c0 A0 _ #[.int .i64 v1, .int .i64 v2, .int .i64 v3] rfl hown (by simp [Value.oneCell']) (by omega) (by omega)
    rw [← hv] at hg9 hl9
    have hp9 : ∃ cur, Bk w9 G' 59 cur ∧ cur[q + 5]? = some (rv 10).v := by
      obtain ⟨cur, hb9⟩ := Hgbk.out
      have h1 : Bk w9 G' 59 cur := Bk.grown (hb9.keep (Hb.out.block G' hpb)) hg9 (HPW.live.own 10 (by decide)) (by decide)
      exact ⟨cur, h1, by rw [← hb9.cell, kp, hv]⟩
    obtain ⟨cur9, hp9, hq9⟩ := hp9
    have hr9 := Bk.grown Hr.out hg9 (HPW.live.own 10 (by decide)) (by decide)
    have x9 : w9.cell? ⟨G', q + 5, none⟩ = some (rv 10).v := (hp9.cell _).trans hq9
    have y9 := hp9.frozen (q + 5)
    have z9 : w9.cell? ⟨w.heap.size, 1, none⟩ = some (.int .i64 (eNum (eNum (eGl gl 0 t1) t2) t3)) := hr9.cell 1
    generalize her : eNum (eNum (eGl gl 0 t1) t2) t3 = er at *
    have Hpush := Lib.hid (PSt.more_pas (m := 1) (K' := K + n9 3) HPW Hs.out H0.out hg9 ho9 hl9 (ys := [⟨v1, v2, v3⟩]) rfl (Fl.one (R := PartR) (⟨rfl, HI1.out, HI2.out, HI3.out⟩) rfl) (by unfold n9; simp))
    rw [← Hq.out] at Hpush
    have Hlow := Lib.hid (Hb.out.mono hB)
    have HQ := Lib.hid (KQ.below (cm := cm) Hb.out)
    clear hW1 hown ho9 hg9 hl9 hp9 hr9 HPW
    go_region
    all_goals
      go_wp2
      go_ret
      obtain ⟨rv', g1, g2, g3, -⟩ := Hpush.out
      exact StPost.fin HR.out (Hlow.out.trans g3) (HQ.out.trans g2) g1
  · have HR := Lib.hid (rPart_no gl s l h1)
    have e1 : ((n : Int) == 4) = false := by simp; omega
    have e2 : ((n : Int) != 4) = true := by simp; omega
    clear hP hL hT h1 hn hs h0 hq
    go_enter Tryz.func82, Tryz.ntmps82
    go_wp2
    go_ret
    exact StPost.bad HR.out (Below.refl _ _)
set_option maxRecDepth 100000 in
set_option maxHeartbeats 4000000 in
theorem readHint_ok (w : World) (Bd p gm cm : Nat) (gl : Gl) (s : PS) (rv : Rows) (K : Nat) (A : Option Addr) (n c : Nat) (ws : List P3) (t : B) (l : List B) (hP : PSt w Bd p gm cm gl s rv K) (hL : LnAt w A n ws) (hT : txts ws = t :: l) (hK : K ≤ 10000000000) (hc : n ≤ c) (hTb : PTabs w) (hnT : nT ≤ Bd) {init : List Glyph} {g : Glyph} (hs : s.f.glyphs = init ++ [g]) {G n0 c9 q : Nat} (h0 : (rv 0).v = .slice (some ⟨G, 0, none⟩) n0 c9) (hq : q = init.length * 9) :
    Calls Tryz.prog 85 #[.pointer (some ⟨p, 0, none⟩), .slice A n c, .pointer (some ⟨G, q, none⟩)] w (StPost w Bd p gm cm gl (K + n) (rHint s l)) := by
  have hn : n = l.length + 1 := by rw [← hL.length]; exact txts_cons hT
  have hB := hP.size
  have hnn := hL.few
  obtain ⟨A', hsub, hrd, hlen⟩ := hL.sub hc 1 1 rfl (by omega)
  have hare := Lib.hid (areOps_ok w A' (n - 1) (c - 1) (ws.drop 1) hrd hlen (by omega))
  have hall : (ws.drop 1).all (fun x => opW x.2.2) = opsOk l := by rw [txts_all, txts_rest hT]; rfl
  rw [hall] at hare
  cases hok : opsOk l with
  | false =>
    rw [hok] at hare
    have HR : Hid (rHint s l = .error 22) := by
      show _ = _
      unfold rHint
      rw [if_neg (gl_ne hs), if_pos hok]
    clear hok hall hP hL hT hrd hlen hTb hn hs h0 hq
    go_enter Tryz.func85, Tryz.ntmps85
    go_wp2_with (go_at_call 125; refine hare.out.mono ?_; rintro e w1 ⟨rfl, hb1⟩)
    go_ret
    exact StPost.bad HR.out (hb1.mono hB)
  | true =>
    rw [hok] at hare
    have HP := Lib.hid hP
    have HTb := Lib.hid hTb
    obtain ⟨G', c9', ci, gv, -, -, hGb, gcell, gfz, gbk⟩ := hP.glyph_cells hs
    obtain ⟨rfl, hn0, rfl⟩ : G' = G ∧ init.length + 1 = n0 ∧ c9' = c9 := by rw [gv] at h0; simpa using h0
    have hpb : G' < w.heap.size := hGb
    obtain ⟨A0, c0, hv⟩ := hP.slice (i := 13) (by decide)
    have kp : w.cell? ⟨G', q + 8, none⟩ = some (rv 13).v := by rw [hq]; exact gcell 8 (by decide)
    rw [hv] at kp
    have hfew := hP.few 13 (by decide)
    have HR : Hid (rHint s l = fin (l.foldl eOp 0) { s with f := { s.f with glyphs := init ++ [{ g with hint := g.hint ++ l.map vOp }] } }) := by
      show _ = _
      unfold rHint
      rw [if_neg (gl_ne hs), if_neg (by rw [hok]; simp), onLast_eq s _ hs]
    have Hs := Lib.hid hs
    have Hq := Lib.hid hq
    have H0 := Lib.hid h0
    have Hgbk := Lib.hid gbk
    have hns := Lib.hid (fun w1 rb (hr : Rdr w1 rb p 0) (hb : Below w.heap.size w w1) (hb9 : w.heap.size ≤ rb) => ops_ok w1 rb p 0 A' (n - 1) (c - 1) (ws.drop 1) (HTb.out.below hb) (Nat.le_trans hnT (Nat.le_trans hB hb9)) hr (hrd.below hb) hlen (by omega))
    rw [txts_rest hT] at hns
    have hll : l.length = n - 1 := by omega
    have hfl := Lib.hid (fun (w : World) S => ins_fl w S (l.map vOp) (vOp_i64 l))
    have hlm : Hid (n - 1 = (l.map vOp).length) := by show _ = _; simp [hll]
    have hone := Lib.hid (insC_one (l.map vOp))
    have hnn1 : n - 1 ≤ n := by omega
    have hn1 : 1 ≤ n := by omega
    clear hP hL hT hrd hlen hll hn hTb hall hok hs h0 hq gv gcell gfz gbk hn0
    go_enter Tryz.func85, Tryz.ntmps85
    go_wp2_with (go_at_call 125; refine hare.out.mono ?_; rintro e w0 ⟨rfl, hb0⟩)
    go_wp2_with fail
    refine (read_ok w0 p).mono ?_
    rintro e w1 ⟨rfl, hr1, hb01⟩
    have hb1 : Below w.heap.size w w1 := hb0.trans (hb01.mono hb0.size)
    have k1 : w1.cell? ⟨G', q + 8, none⟩ = some (.slice A0 (rv 13).n c0) := ((bcell hb1).1 _ _ hpb).trans kp
    have k1d : w1.drew.cell? ⟨G', q + 8, none⟩ = some (.slice A0 (rv 13).n c0) := k1
    have hz0 := hb0.size
    have hz1 := hb1.size
    have hlr := hr1.lt
    have Hr1 := Lib.hid hr1
    have Hb1 := Lib.hid hb1
    clear hr1 hb1 hb0 hb01
    go_wp2_with fail
    go_region_with (go_at_call 126; refine (hns.out _ _ (by exact Hr1.out) (by exact Hb1.out.drew) hz0).mono ?_; rintro e w2 ⟨v, rfl, A4, c4, rfl, ho4, hr4, hg4⟩; have hb2 := below_rdr Hb1.out.drew hg4 hz0; have HPW := HP.out.below hb2; have hown := HPW.live.own 13 (by decide); rw [hv] at hown; have hrd4 := (own_rdT ho4).rd; obtain ⟨A5, c5, w9, hrun, ho9, hg9, hl9⟩ := run_more elIns 57 w2 Bd _ c0 A0 _ _ A4 (n - 1) c4 _ hown hrd4 hone.out (by omega) HPW.size; have k2 : w2.cell? ⟨G', q + 8, none⟩ = some (.slice A0 (rv 13).n c0) := ((bcell hb2).1 _ _ hpb).trans kp; rw [← hv] at hg9 hl9; obtain ⟨cur9, hp9, hq9⟩ : ∃ cur, Bk w9 G' 59 cur ∧ cur[q + 8]? = some (rv 13).v := (by obtain ⟨cur, hb9⟩ := Hgbk.out; exact ⟨cur, Bk.grown (hb9.keep (hb2.block G' hpb)) hg9 (HPW.live.own 13 (by decide)) (by decide), by rw [← hb9.cell, kp, hv]⟩); have hr9 := Bk.grown hr4 hg9 (HPW.live.own 13 (by decide)) (by decide); have x9 : w9.cell? ⟨G', q + 8, none⟩ = some (rv 13).v := (hp9.cell _).trans hq9; have y9 := hp9.frozen (q + 8); have z9 : w9.cell? ⟨w0.heap.size, 1, none⟩ = some (.int .i64 (l.foldl eOp 0)) := hr9.cell 1; have Hpush := Lib.hid (PSt.more_his (m := n - 1) (K' := K + n) HPW Hs.out H0.out hg9 ho9 hl9 hlm.out (hfl.out _ _) (by omega)); rw [← Hq.out] at Hpush; have Hlow := Lib.hid (hb2.mono hB); have HQ := Lib.hid (KQ.below (cm := cm) hb2); clear hown ho9 hg9 hl9 hp9 hr9 HPW hb2 ho4 hr4 hg4 hrd4)
    all_goals
      go_wp2
      go_ret
      obtain ⟨rv', g1, g2, g3, -⟩ := Hpush.out
      exact StPost.fin HR.out (Hlow.out.trans g3) (HQ.out.trans g2) g1
set_option maxRecDepth 100000 in
set_option maxHeartbeats 4000000 in
theorem readFunc_ok (w : World) (Bd p gm cm : Nat) (gl : Gl) (s : PS) (rv : Rows) (K : Nat) (A : Option Addr) (n c : Nat) (ws : List P3) (t : B) (l : List B) (hP : PSt w Bd p gm cm gl s rv K) (hL : LnAt w A n ws) (hT : txts ws = t :: l) (hK : K ≤ 10000000000) (hc : n ≤ c) (hTb : PTabs w) (hnT : nT ≤ Bd) :
    Calls Tryz.prog 77 #[.pointer (some ⟨p, 0, none⟩), .slice A n c] w (StPost w Bd p gm cm gl (K + n) (rFunc s l)) := by
  have hn : n = l.length + 1 := by rw [← hL.length]; exact txts_cons hT
  have hB := hP.size
  have hnn := hL.few
  obtain ⟨A', hsub, hrd, hlen⟩ := hL.sub hc 1 1 rfl (by omega)
  have hare := Lib.hid (areOps_ok w A' (n - 1) (c - 1) (ws.drop 1) hrd hlen (by omega))
  have hall : (ws.drop 1).all (fun x => opW x.2.2) = opsOk l := by rw [txts_all, txts_rest hT]; rfl
  rw [hall] at hare
  cases hok : opsOk l with
  | false =>
    rw [hok] at hare
    have HR : Hid (rFunc s l = .error 22) := by
      show _ = _
      unfold rFunc
      rw [if_pos hok]
    clear hok hall hP hL hT hrd hlen hTb hn 
    go_enter Tryz.func77, Tryz.ntmps77
    go_wp2_with (go_at_call 125; refine hare.out.mono ?_; rintro e w1 ⟨rfl, hb1⟩)
    go_ret
    exact StPost.bad HR.out (hb1.mono hB)
  | true =>
    rw [hok] at hare
    have HP := Lib.hid hP
    have HTb := Lib.hid hTb
    have hpb : p < w.heap.size := hP.par.lt
    obtain ⟨A0, c0, hv⟩ := hP.slice (i := 6) (by decide)
    have kp : w.cell? ⟨p, 7, none⟩ = some (rv 6).v := hP.par.cell 7
    rw [hv] at kp
    have hfew := hP.few 6 (by decide)
    have HR : Hid (rFunc s l = fin (l.foldl eOp 0) { s with f := { s.f with funcs := s.f.funcs ++ [l.map vOp] } }) := by
      show _ = _
      unfold rFunc
      rw [if_neg (by rw [hok]; simp)]
    have hns := Lib.hid (fun w1 rb (hr : Rdr w1 rb p 0) (hb : Below w.heap.size w w1) (hb9 : w.heap.size ≤ rb) => ops_ok w1 rb p 0 A' (n - 1) (c - 1) (ws.drop 1) (HTb.out.below hb) (Nat.le_trans hnT (Nat.le_trans hB hb9)) hr (hrd.below hb) hlen (by omega))
    rw [txts_rest hT] at hns
    have hll : l.length = n - 1 := by omega
    have hfl := Lib.hid (fun (w : World) S => ins_fl w S (l.map vOp) (vOp_i64 l))
    have hlm : Hid (n - 1 = (l.map vOp).length) := by show _ = _; simp [hll]
    have hone := Lib.hid (insC_one (l.map vOp))
    have hnn1 : n - 1 ≤ n := by omega
    have hn1 : 1 ≤ n := by omega
    clear hP hL hT hrd hlen hll hn hTb hall hok 
    go_enter Tryz.func77, Tryz.ntmps77
    go_wp2_with (go_at_call 125; refine hare.out.mono ?_; rintro e w0 ⟨rfl, hb0⟩)
    go_wp2_with fail
    refine (read_ok w0 p).mono ?_
    rintro e w1 ⟨rfl, hr1, hb01⟩
    have hb1 : Below w.heap.size w w1 := hb0.trans (hb01.mono hb0.size)
    have k1 : w1.cell? ⟨p, 7, none⟩ = some (.slice A0 (rv 6).n c0) := ((bcell hb1).1 _ _ hpb).trans kp
    have k1d : w1.drew.cell? ⟨p, 7, none⟩ = some (.slice A0 (rv 6).n c0) := k1
    have hz0 := hb0.size
    have hz1 := hb1.size
    have hlr := hr1.lt
    have Hr1 := Lib.hid hr1
    have Hb1 := Lib.hid hb1
    clear hr1 hb1 hb0 hb01
    go_wp2_with fail
    go_region_with (go_at_call 126; refine (hns.out _ _ (by exact Hr1.out) (by exact Hb1.out.drew) hz0).mono ?_; rintro e w2 ⟨v, rfl, A4, c4, rfl, ho4, hr4, hg4⟩; have hb2 := below_rdr Hb1.out.drew hg4 hz0; have HPW := HP.out.below hb2; have hown := HPW.live.own 6 (by decide); rw [hv] at hown; obtain ⟨A5, c5, w9, hrun, ho9, hg9, hl9⟩ := run_push0 elCode 30 w2 Bd _ c0 A0 _ #[.slice A4 (n - 1) c4] rfl hown (by simp [Value.oneCell']) (by omega) HPW.size; have k2 : w2.cell? ⟨p, 7, none⟩ = some (.slice A0 (rv 6).n c0) := ((bcell hb2).1 _ _ hpb).trans kp; have zp2 : p < w2.heap.size := HPW.par.lt; rw [← hv] at hg9 hl9; have hp9 : Bk w9 p tPar (parCells s rv gm cm) := (HPW.row (i := 6) (by decide) (r := ⟨.slice A5 ((rv 6).n + 1) c5, _, _⟩) hg9 ho9 hl9).1; have hr9 := Bk.grown hr4 hg9 (HPW.live.own 6 (by decide)) (by decide); have x9 : w9.cell? ⟨p, 7, none⟩ = some (rv 6).v := hp9.cell 7; have y9 := hp9.frozen 7; have z9 : w9.cell? ⟨w0.heap.size, 1, none⟩ = some (.int .i64 (l.foldl eOp 0)) := hr9.cell 1; have hel : CodeR w2 (Fz w2 rv) [.slice A4 (n - 1) c4] (l.map vOp) := (by rw [hlm.out] at ho4 ⊢; exact ⟨A4, c4, rfl, Sl.of_own' ho4 (hfl.out _ _) (HP.out.fresh ho4 hz1 (by decide)) (by decide)⟩); have Hpush := Lib.hid (PSt.more_fns (m := 1) (K' := K + n) HPW hg9 ho9 hl9 (ys := [l.map vOp]) rfl (Fl.one (R := CodeR) hel rfl) (by omega)); have Hlow := Lib.hid ((hb2.mono hB).trans (HPW.push_low (i := 6) (by decide) hg9 7 (.slice A5 ((rv 6).n + 1) c5) HPW.size)); have HQ := Lib.hid (KQ.below (cm := cm) hb2); clear hown ho9 hg9 hl9 hp9 hr9 HPW hb2 ho4 hr4 hg4 hel)
    all_goals
      go_wp2
      go_ret
      exact StPost.fin HR.out Hlow.out (HQ.out.trans Hpush.out.2) Hpush.out.1
end Go.Proofs.YtkijckccfookeaaGreatDoor
