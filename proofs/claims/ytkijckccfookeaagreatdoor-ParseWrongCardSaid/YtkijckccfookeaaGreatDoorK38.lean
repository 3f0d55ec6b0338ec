/- parse: delta, contour. -/
import Derived.Test.YtkijckccfookeaaGreatDoorPaK
namespace Go.Proofs.YtkijckccfookeaaGreatDoor
open Go.RowKit
attribute [-go_sem] Builtin.append_

theorem rDelta_no (s : PS) (l : List B) (h : l.length ≠ 4) : rDelta s l = .error 22 := by
  unfold rDelta
  split
  · rfl
  · split
    · simp at h
    · rfl
set_option maxRecDepth 100000 in
set_option maxHeartbeats 4000000 in
theorem readDelta_ok (w : World) (Bd p gm cm : Nat) (gl : Gl) (s : PS) (rv : Rows) (K : Nat) (A : Option Addr) (n c : Nat) (ws : List P3) (t : B) (l : List B) (hP : PSt w Bd p gm cm gl s rv K) (hL : LnAt w A n ws) (hT : txts ws = t :: l) (hK : K ≤ 10000000000) (hc : n ≤ c) {init : List Glyph} {g : Glyph} (hs : s.f.glyphs = init ++ [g]) {G n0 c9 q : Nat} (h0 : (rv 0).v = .slice (some ⟨G, 0, none⟩) n0 c9) (hq : q = init.length * 9) :
    Calls Tryz.prog 84 #[.pointer (some ⟨p, 0, none⟩), .slice A n c, .pointer (some ⟨G, q, none⟩)] w (StPost w Bd p gm cm gl (K + n) (rDelta s l)) := by
  have hn : n = l.length + 1 := by rw [← hL.length]; exact txts_cons hT
  have hB := hP.size
  by_cases h1 : l.length = 4
  · obtain ⟨t1, t2, t3, t4, rfl⟩ : ∃ t1 t2 t3 t4, l = [t1, t2, t3, t4] := by
      match l, h1 with
      | [a, b, c, d], _ => exact ⟨a, b, c, d, rfl⟩
    obtain ⟨A', hsub, hrd, hlen⟩ := hL.sub hc 1 1 rfl (by omega)
    simp only [List.length_cons, List.length_nil] at hn
    subst hn
    have HP := Lib.hid hP
    obtain ⟨G', c9', ci, gv, -, -, hGb, gcell, gfz, gbk⟩ := hP.glyph_cells hs
    obtain ⟨rfl, hn0, rfl⟩ : G' = G ∧ init.length + 1 = n0 ∧ c9' = c9 := by rw [gv] at h0; simpa using h0
    have hpb : G' < w.heap.size := hGb
    obtain ⟨A0, c0, hv⟩ := hP.slice (i := 12) (by decide)
    have kp : w.cell? ⟨G', q + 7, none⟩ = some (rv 12).v := by rw [hq]; exact gcell 7 (by decide)
    rw [hv] at kp
    have hfew := hP.few 12 (by decide)
    have HR : Hid (rDelta s [t1, t2, t3, t4] = fin (eNums 0 [t1, t2, t3, t4]) { s with f := { s.f with glyphs := init ++ [{ g with deltas := g.deltas ++ [⟨numV t1, numV t2, numV t3, numV t4⟩] }] } }) := by
      show _ = _
      unfold rDelta
      rw [if_neg (gl_ne hs)]
      simp only
      rw [onLast_eq s _ hs]
    have Hs := Lib.hid hs
    have Hq := Lib.hid hq
    have H0 := Lib.hid h0
    have Hgbk := Lib.hid gbk
    have HI1 := Lib.hid (numV_i64 t1)
    have HI2 := Lib.hid (numV_i64 t2)
    have HI3 := Lib.hid (numV_i64 t3)
    have HI4 := Lib.hid (numV_i64 t4)
    have hns := Lib.hid (fun w1 rb (hr : Rdr w1 rb p 0) (hb : Below w.heap.size w w1) => numbers_ok w1 rb p 0 A' (0 + 1 + 1 + 1 + 1 + 1 - 1) (c - 1) (ws.drop 1) hr (hrd.below hb) hlen (by omega))
    rw [txts_rest hT] at hns
    have hcI : Hid (cIs (List.map numV [t1, t2, t3, t4]) = [.int .i64 (numV t1), .int .i64 (numV t2), .int .i64 (numV t3), .int .i64 (numV t4)]) := rfl
    rw [hcI.out] at hns
    generalize eNums 0 [t1, t2, t3, t4] = er at *
    generalize numV t1 = v1 at *
    generalize numV t2 = v2 at *
    generalize numV t3 = v3 at *
    generalize numV t4 = v4 at *
    clear hP hL hT hrd hlen hs hq h0 gv gcell gfz gbk hn0 hcI h1
    simp only [Nat.zero_add, Nat.reduceAdd, Nat.reduceSub] at hsub hns hK ⊢
    go_enter Tryz.func84, Tryz.ntmps84
    go_wp2_with fail
    refine (read_ok w p).mono ?_
    rintro e w1 ⟨rfl, hr1, hb1⟩
    have hz1 := hb1.size
    go_wp2_with fail
    refine (hns.out _ _ hr1 hb1).mono ?_
    rintro e w2 ⟨v, rfl, A4, c4, rfl, ho4, hr4, hg4⟩
    have hb2 := below_rdr hb1 hg4 (Nat.le_refl _)
    obtain ⟨b4, cur4, rfl, hk4, hx4⟩ : ∃ b4 cur4, A4 = some ⟨b4, 0, none⟩ ∧ Bk w2 b4 3 cur4 ∧ ∀ j u, [Value.int .i64 v1, .int .i64 v2, .int .i64 v3, .int .i64 v4][j]? = some u → cur4[j]? = some u := by
      rcases ho4.2 with ⟨_, h⟩ | ⟨g, cap, cur, e, _, hh, _, _, _, htk⟩
      · omega
      · simp only [Value.slice.injEq, true_and] at e
        obtain ⟨rfl, -⟩ := e
        refine ⟨g, cur, rfl, hh, fun j u hu => ?_⟩
        rw [← htk, List.getElem?_take] at hu
        split at hu
        · simpa using hu
        · cases hu
    have m0 : w2.cell? ⟨b4, 0, none⟩ = some (.int .i64 v1) := (hk4.cell 0).trans (hx4 0 _ rfl)
    have m1 : w2.cell? ⟨b4, 1, none⟩ = some (.int .i64 v2) := (hk4.cell 1).trans (hx4 1 _ rfl)
    have m2 : w2.cell? ⟨b4, 2, none⟩ = some (.int .i64 v3) := (hk4.cell 2).trans (hx4 2 _ rfl)
    have m3 : w2.cell? ⟨b4, 3, none⟩ = some (.int .i64 v4) := (hk4.cell 3).trans (hx4 3 _ rfl)
    have hb4 : b4 < w2.heap.size := hk4.lt
    have k2 : w2.cell? ⟨G', q + 7, none⟩ = some (.slice A0 (rv 12).n c0) := ((bcell hb2).1 _ _ hpb).trans kp
    have hG2 : G' < w2.heap.size := Nat.lt_of_lt_of_le hpb hb2.size
    have HPW := HP.out.below hb2
    have hown := HPW.live.own 12 (by decide)
    rw [hv] at hown
    obtain ⟨A5, c5, w9, hrun, ho9, hg9, hl9⟩ := run_push elDelta 56 w2 Bd _ c0 A0 _ #[.int .i64 v1, .int .i64 v2, .int .i64 v3, .int .i64 v4] rfl hown (by simp [Value.oneCell']) (by omega) HPW.size
    rw [← hv] at hg9 hl9
    obtain ⟨cur9, hp9, hq9⟩ : ∃ cur, Bk w9 G' 59 cur ∧ cur[q + 7]? = some (rv 12).v := by
      obtain ⟨cur, hb9⟩ := Hgbk.out
      exact ⟨cur, Bk.grown (hb9.keep (hb2.block G' hpb)) hg9 (HPW.live.own 12 (by decide)) (by decide), by rw [← hb9.cell, kp, hv]⟩
    have hr9 := Bk.grown hr4 hg9 (HPW.live.own 12 (by decide)) (by decide)
    have x9 : w9.cell? ⟨G', q + 7, none⟩ = some (rv 12).v := (hp9.cell _).trans hq9
    have y9 := hp9.frozen (q + 7)
    have z9 : w9.cell? ⟨w.heap.size, 1, none⟩ = some (.int .i64 er) := hr9.cell 1
    have Hpush := Lib.hid (PSt.more_des (m := 1) (K' := K + 5) HPW Hs.out H0.out hg9 ho9 hl9 (ys := [⟨v1, v2, v3, v4⟩]) rfl (Fl.one (R := DeltaR) (⟨rfl, HI1.out, HI2.out, HI3.out, HI4.out⟩) rfl) (by omega))
    rw [← Hq.out] at Hpush
    have Hlow := Lib.hid (hb2.mono hB)
    have HQ := Lib.hid (KQ.below (cm := cm) hb2)
    clear hown ho9 hg9 hl9 hp9 hr9 HPW hb2 ho4 hr4 hg4 hb1 hr1 hk4 hx4 hq9
    go_wp2_with fail
    go_region
    all_goals
      go_wp2
      go_ret
      obtain ⟨rv', g1, g2, g3, -⟩ := Hpush.out
      exact StPost.fin HR.out (Hlow.out.trans g3) (HQ.out.trans g2) g1
  · have HR := Lib.hid (rDelta_no s l h1)
    have e1 : ((n : Int) == 5) = false := by simp; omega
    have e2 : ((n : Int) != 5) = true := by simp; omega
    clear hP hL hT h1 hn hs h0 hq
    go_enter Tryz.func84, Tryz.ntmps84
    go_wp2
    go_ret
    exact StPost.bad HR.out (Below.refl _ _)
end Go.Proofs.YtkijckccfookeaaGreatDoor
/- parse: contour. Printed by gen_pam.py. -/
namespace Go.Proofs.YtkijckccfookeaaGreatDoor
open Go.RowKit
attribute [-go_sem] Builtin.append_

set_option maxRecDepth 100000 in
set_option maxHeartbeats 4000000 in
theorem readContour_ok (w : World) (Bd p gm cm : Nat) (gl : Gl) (s : PS) (rv : Rows) (K : Nat) (A : Option Addr) (n c : Nat) (ws : List P3) (t : B) (l : List B) (hP : PSt w Bd p gm cm gl s rv K) (hL : LnAt w A n ws) (hT : txts ws = t :: l) (hK : K ≤ 1000000000) (hc : n ≤ c) {init : List Glyph} {g : Glyph} (hs : s.f.glyphs = init ++ [g]) {G n0 c9 q : Nat} (h0 : (rv 0).v = .slice (some ⟨G, 0, none⟩) n0 c9) (hq : q = init.length * 9) :
    Calls Tryz.prog 81 #[.pointer (some ⟨p, 0, none⟩), .slice A n c, .pointer (some ⟨G, q, none⟩)] w (StPost w Bd p gm cm gl (K + n) (rContour s l)) := by
  have hn : n = l.length + 1 := by rw [← hL.length]; exact txts_cons hT
  have hB := hP.size
  have hnn := hL.few
  by_cases hle : l = []
  · have HR : Hid (rContour s l = .error 22) := by
      show _ = _
      unfold rContour
      rw [if_neg (gl_ne hs), if_pos (.inl hle)]
    have hl0 : l.length = 0 := by rw [hle]; rfl
    have e1 : ((n : Int) < 2) := by omega
    clear hP hL hT hn hs h0 hq hle hl0
    go_enter Tryz.func81, Tryz.ntmps81
    go_wp2
    go_ret
    exact StPost.bad HR.out (Below.refl _ _)
  have hl1 : 1 ≤ l.length := by
    cases l with
    | nil => exact absurd rfl hle
    | cons a b => simp
  have hn2 : 2 ≤ n := by omega
  have e2n : ¬ ((n : Int) < 2) := by omega
  obtain ⟨A', hsub, hrd, hlen⟩ := hL.sub hc 1 1 rfl (by omega)
  have hare := Lib.hid (arePoints_ok w A' (n - 1) (c - 1) (ws.drop 1) hrd hlen (by omega))
  have hall : (ws.drop 1).all (fun x => ptOk x.2.2) = l.all ptOk := by rw [txts_all, txts_rest hT]
  rw [hall] at hare
  cases hok : l.all ptOk with
  | false =>
    rw [hok] at hare
    have HR : Hid (rContour s l = .error 22) := by
      show _ = _
      unfold rContour
      rw [if_neg (gl_ne hs), if_pos (.inr hok)]
    clear hok hall hP hL hT hrd hlen hn hs h0 hq hle
    go_enter Tryz.func81, Tryz.ntmps81
    go_wp2_with (go_at_call 130; refine hare.out.mono ?_; rintro e w1 ⟨rfl, hb1⟩)
    go_ret
    exact StPost.bad HR.out (hb1.mono hB)
  | true =>
    rw [hok] at hare
    have HP := Lib.hid hP
    obtain ⟨G', c9', ci, gv, -, -, hGb, gcell, gfz, gbk⟩ := hP.glyph_cells hs
    obtain ⟨rfl, hn0, rfl⟩ : G' = G ∧ init.length + 1 = n0 ∧ c9' = c9 := by rw [gv] at h0; simpa using h0
    have hpb : G' < w.heap.size := hGb
    obtain ⟨A0, c0, hv⟩ := hP.slice (i := 8) (by decide)
    have kp : w.cell? ⟨G', q + 3, none⟩ = some (rv 8).v := by rw [hq]; exact gcell 3 (by decide)
    rw [hv] at kp
    have hfew := hP.few 8 (by decide)
    have HR : Hid (rContour s l = fin (l.foldl ePt 0) { s with f := { s.f with glyphs := init ++ [{ g with points := g.points ++ l.map vPt, ends := g.ends ++ [((g.points.length + l.length : Nat) : Int) - 1] }] } }) := by
      show _ = _
      unfold rContour
      rw [if_neg (gl_ne hs), if_neg (by rw [hok]; simp [hle]), onLast_eq s _ hs]
    have hpl : g.points.length + l.length ≤ K + n := by
      have h5 : (rv 8).n = g.points.length := by
        rcases hP.fnt.gly.2 with ⟨e, _⟩ | ⟨init', g', ci, e1, -, -, -, h5, -⟩
        · rw [hs] at e; simp at e
        · rw [hs] at e1
          obtain ⟨rfl, e1⟩ := List.append_inj' e1 rfl
          obtain rfl : g = g' := by simpa using e1
          exact h5.1
      have := hP.few 8 (by decide)
      omega
    have hpn : Hid ((g.points ++ l.map vPt).length = g.points.length + l.length) := by show _ = _; simp
    have Hs := Lib.hid hs
    have Hq := Lib.hid hq
    have H0 := Lib.hid h0
    have Hgbk := Lib.hid gbk
    have hns := Lib.hid (fun w1 rb (hr : Rdr w1 rb p 0) (hb : Below w.heap.size w w1) (hb9 : w.heap.size ≤ rb) => points_ok w1 rb p 0 A' (n - 1) (c - 1) (ws.drop 1) hr (hrd.below hb) hlen (by omega))
    rw [txts_rest hT] at hns
    have hll : l.length = n - 1 := by omega
    have hfl := Lib.hid (fun (w : World) S => pt_fl w S (l.map vPt) (vPt_i64 l))
    have hlm : Hid (n - 1 = (l.map vPt).length) := by show _ = _; simp [hll]
    have hone := Lib.hid (ptC_one (l.map vPt))
    have hnn1 : n - 1 ≤ n := by omega
    have hn1 : 1 ≤ n := by omega
    clear hP hL hT hrd hlen hll hn hall hok hle hs h0 hq gv gcell gfz gbk hn0
    go_enter Tryz.func81, Tryz.ntmps81
    go_wp2_with (go_at_call 130; refine hare.out.mono ?_; rintro e w0 ⟨rfl, hb0⟩)
    go_wp2_with fail
    refine (read_ok w0 p).mono ?_
    rintro e w1 ⟨rfl, hr1, hb01⟩
    have hb1 : Below w.heap.size w w1 := hb0.trans (hb01.mono hb0.size)
    have k1 : w1.cell? ⟨G', q + 3, none⟩ = some (.slice A0 (rv 8).n c0) := ((bcell hb1).1 _ _ hpb).trans kp
    have k1d : w1.drew.cell? ⟨G', q + 3, none⟩ = some (.slice A0 (rv 8).n c0) := k1
    have hz0 := hb0.size
    have hz1 := hb1.size
    have hlr := hr1.lt
    have Hr1 := Lib.hid hr1
    have Hb1 := Lib.hid hb1
    clear hr1 hb1 hb0 hb01
    go_wp2_with fail
    go_region_with (go_at_call 131; refine (hns.out _ _ (by exact Hr1.out) (by exact Hb1.out.drew) hz0).mono ?_; rintro e w2 ⟨v, rfl, A4, c4, rfl, ho4, hr4, hg4⟩; have hb2 := below_rdr Hb1.out.drew hg4 hz0; have HPW := HP.out.below hb2; have hown := HPW.live.own 8 (by decide); rw [hv] at hown; have hrd4 := (own_rdT ho4).rd; obtain ⟨A5, c5, w9, hrun, ho9, hg9, hl9⟩ := run_more elPt 51 w2 Bd _ c0 A0 _ _ A4 (n - 1) c4 _ hown hrd4 hone.out (by omega) HPW.size; have k2 : w2.cell? ⟨G', q + 3, none⟩ = some (.slice A0 (rv 8).n c0) := ((bcell hb2).1 _ _ hpb).trans kp; rw [← hv] at hg9 hl9; obtain ⟨cur9, hp9, hq9⟩ : ∃ cur, Bk w9 G' 59 cur ∧ cur[q + 3]? = some (rv 8).v := (by obtain ⟨cur, hb9⟩ := Hgbk.out; exact ⟨cur, Bk.grown (hb9.keep (hb2.block G' hpb)) hg9 (HPW.live.own 8 (by decide)) (by decide), by rw [← hb9.cell, kp, hv]⟩); have hr9 := Bk.grown hr4 hg9 (HPW.live.own 8 (by decide)) (by decide); have x9 : w9.cell? ⟨G', q + 3, none⟩ = some (rv 8).v := (hp9.cell _).trans hq9; have y9 := hp9.frozen (q + 3); have z9 : w9.cell? ⟨w0.heap.size, 1, none⟩ = some (.int .i64 (l.foldl ePt 0)) := hr9.cell 1; have Hr9 := Lib.hid hr9; have Hpush := Lib.hid (PSt.more_pts (m := n - 1) (K' := K + (n - 1)) HPW Hs.out H0.out hg9 ho9 hl9 hlm.out (hfl.out _ _) (by omega)); rw [← Hq.out] at Hpush; have Hlow := Lib.hid (hb2.mono hB); have HQ := Lib.hid (KQ.below (cm := cm) hb2); clear hown ho9 hg9 hl9 hp9 hr9 HPW hb2 ho4 hr4 hg4 hrd4)
    all_goals
      obtain ⟨rv5, HP5, HQ5, HB5, hv5⟩ := Hpush.out
      obtain ⟨W5, hW5⟩ : ∃ W5, w9.setCell ⟨G', q + 3, none⟩ (.slice A5 ((rv 8).n + (n - 1)) c5) = W5 := ⟨_, rfl⟩
      rw [hW5] at HP5 HQ5 HB5 ⊢
      have hr5 : Rdr W5 w0.heap.size p (l.foldl ePt 0) := by rw [← hW5]; exact Bk.far Hr9.out (by simp; omega) _
      have hv50 := hv5.trans H0.out
      obtain ⟨G2, c2, ci2, gv2, -, -, hG2, gcell2, gfz2, gbk2⟩ := HP5.glyph_cells (init := init) rfl
      obtain ⟨rfl, -, rfl⟩ : G2 = G' ∧ init.length + 1 = n0 ∧ c2 = c9' := by rw [gv2] at hv50; simpa using hv50
      obtain ⟨A8, c8, hv8⟩ := HP5.slice (i := 8) (by decide)
      obtain ⟨A9, c90, hv9⟩ := HP5.slice (i := 9) (by decide)
      have q8 : W5.cell? ⟨G2, q + 3, none⟩ = some (rv5 8).v := by rw [Hq.out]; exact gcell2 3 (by decide)
      have q9 : W5.cell? ⟨G2, q + 3 + 1, none⟩ = some (rv5 9).v := by rw [Hq.out]; exact gcell2 4 (by decide)
      rw [hv8] at q8
      rw [hv9] at q9
      have hm8 : (rv5 8).n = g.points.length + l.length := by
        rcases HP5.fnt.gly.2 with ⟨e, _⟩ | ⟨init', g', ci, e1, -, -, -, h5, -⟩
        · simp at e
        · obtain ⟨rfl, e1⟩ := List.append_inj' e1 rfl
          obtain rfl : _ = g' := by simpa using e1
          exact h5.1.trans hpn.out
      have hG5 : G2 < W5.heap.size := hG2
      have hown9 := HP5.live.own 9 (by decide)
      have hfew9 := HP5.few 9 (by decide)
      rw [hv9] at hown9
      have hI : I64 (((rv5 8).n : Int) - 1) := ⟨by omega, by omega⟩
      obtain ⟨A6, c6, w10, hrun6, ho10, hg10, hl10⟩ := run_push elInt 22 W5 Bd _ c90 A9 _ #[.int .i64 (((rv5 8).n : Int) - 1)] rfl hown9 (by simp [Value.oneCell']) (by omega) HP5.size
      rw [← hv9] at hg10 hl10
      obtain ⟨cur10, hp10, hq10⟩ : ∃ cur, Bk w10 G2 59 cur ∧ cur[q + 3 + 1]? = some (rv5 9).v := by
        obtain ⟨cur, hb9⟩ := gbk2
        exact ⟨cur, Bk.grown hb9 hg10 (HP5.live.own 9 (by decide)) (by decide), by rw [← hb9.cell, q9, hv9]⟩
      have hr10 := Bk.grown hr5 hg10 (HP5.live.own 9 (by decide)) (by decide)
      have x10 : w10.cell? ⟨G2, q + 3 + 1, none⟩ = some (rv5 9).v := (hp10.cell _).trans hq10
      have y10 := hp10.frozen (q + 3 + 1)
      have z10 : w10.cell? ⟨w0.heap.size, 1, none⟩ = some (.int .i64 (l.foldl ePt 0)) := hr10.cell 1
      have Hpush2 := PSt.more_ens (m := 1) (K' := K + n) HP5 (init := init) rfl hv50 hg10 ho10 hl10 (ys := [((rv5 8).n : Int) - 1]) rfl (Fl.one (R := IntR) ⟨rfl, hI⟩ rfl) (by omega)
      rw [← Hq.out] at Hpush2
      have Hpush2 := Lib.hid Hpush2
      have hlen1 : 1 ≤ (rv5 8).n := by omega
      have hlen2 : (rv5 8).n ≤ 100000000000 := by omega
      have Hm8 := Lib.hid hm8
      have Hlow5 := Lib.hid (Hlow.out.trans HB5)
      have HQ5' := Lib.hid (HQ.out.trans HQ5)
      clear hv5 hv50 gv2 gcell2 gfz2 gbk2 hown9 ho10 hg10 hl10 hp10 hq10 hr10 hr5 HP5 HB5 HQ5 hm8 hW5 Hpush hv8 hv9
      generalize (rv5 8).n = m8 at *
      go_wp2_with fail
      go_region
      all_goals
        go_wp2
        go_ret
        obtain ⟨rv', g1, g2, g3, -⟩ := Hpush2.out
        refine StPost.fin ?_ (Hlow5.out.trans g3) (HQ5'.out.trans g2) g1
        rw [HR.out, Hm8.out]
end Go.Proofs.YtkijckccfookeaaGreatDoor
