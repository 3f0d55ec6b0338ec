/- parse: delta, contour. -/
import Derived.Test.YtkijckccfookeaaGreatDoorPaK
import Derived.Test.YtkijckccfookeaaGreatDoorM09
namespace Go.Proofs.YtkijckccfookeaaGreatDoor
open Go.RowKit
attribute [-go_sem] Builtin.append_

theorem rDelta_no (s : PS) (l : List B) (h : l.length ≠ 4) : rDelta s l = .error 22 := by
  unfold rDelta
  split
  · rfl
  · split
    · simp at h
    · rfl
set_option maxRecDepth 100000 in
set_option maxHeartbeats 4000000 in
theorem readDelta_ok (w : World) (Bd p gm cm : Nat) (gl : Gl) (s : PS) (rv : Rows) (K : Nat) (A : Option Addr) (n c : Nat) (ws : List P3) (t : B) (l : List B) (hP : PSt w Bd p gm cm gl s rv K) (hL : LnAt w A n ws) (hT : txts ws = t :: l) (hK : K ≤ 10000000000) (hc : n ≤ c) {init : List Glyph} {g : Glyph} (hs : s.f.glyphs = init ++ [g]) {G n0 c9 q : Nat} (h0 : (rv 0).v = .slice (some ⟨G, 0, none⟩) n0 c9) (hq : q = init.length * 9) :
    Calls Tryz.prog 84 #[.pointer (some ⟨p, 0, none⟩), .slice A n c, .pointer (some ⟨G, q, none⟩)] w (StPost w Bd p gm cm gl (K + n) (rDelta s l)) := by
  have hn : n = l.length + 1 := by rw [← hL.length]; exact txts_cons hT
  have hB := hP.size
  by_cases h1 : l.length = 4
  · obtain ⟨t1, t2, t3, t4, rfl⟩ : ∃ t1 t2 t3 t4, l = [t1, t2, t3, t4] := by
      match l, h1 with
      | [a, b, c, d], _ => exact ⟨a, b, c, d, rfl⟩
    obtain ⟨A', hsub, hrd, hlen⟩ := hL.sub hc 1 1 rfl (by omega)
    simp only [List.length_cons, List.length_nil] at hn
    subst hn
    have HP := Lib.hid hP
    obtain ⟨G', c9', ci, gv, -, -, hGb, gcell, gfz, gbk⟩ := hP.glyph_cells hs
    obtain ⟨rfl, hn0, rfl⟩ : G' = G ∧ init.length + 1 = n0 ∧ c9' = c9 := by rw [gv] at h0; simpa using h0
    have hpb : G' < w.heap.size := hGb
    obtain ⟨A0, c0, hv⟩ := hP.slice (i := 12) (by decide)
    have kp : w.cell? ⟨G', q + 7, none⟩ = some (rv 12).v := by rw [hq]; exact gcell 7 (by decide)
    rw [hv] at kp
    have hfew := hP.few 12 (by decide)
    have HR : Hid (rDelta s [t1, t2, t3, t4] = fin (eNums 0 [t1, t2, t3, t4]) { s with f := { s.f with glyphs := init ++ [{ g with deltas := g.deltas ++ [⟨numV t1, numV t2, numV t3, numV t4⟩] }] } }) := by
      show _ = _
      unfold rDelta
      rw [if_neg (gl_ne hs)]
      simp only
      rw [onLast_eq s _ hs]
    have Hs := Lib.hid hs
    have Hq := Lib.hid hq
    have H0 := Lib.hid h0
    have Hgbk := Lib.hid gbk
    have HI1 := Lib.hid (numV_i64 t1)
    have HI2 := Lib.hid (numV_i64 t2)
    have HI3 := Lib.hid (numV_i64 t3)
    have HI4 := Lib.hid (numV_i64 t4)
    have hns := Lib.hid (fun w1 rb (hr : Rdr w1 rb p 0) (hb : Below w.heap.size w w1) => numbers_ok w1 rb p 0 A' (0 + 1 + 1 + 1 + 1 + 1 - 1) (c - 1) (ws.drop 1) hr (hrd.below hb) hlen (by omega))
    rw [txts_rest hT] at hns
    have hcI : Hid (cIs (List.map numV [t1, t2, t3, t4]) = [.int .i64 (numV t1), .int .i64 (numV t2), .int .i64 (numV t3), .int .i64 (numV t4)]) := rfl
    rw [hcI.out] at hns
    generalize eNums 0 [t1, t2, t3, t4] = er at *
    generalize numV t1 = v1 at *
    generalize numV t2 = v2 at *
    generalize numV t3 = v3 at *
    generalize numV t4 = v4 at *
    clear hP hL hT hrd hlen hs hq h0 gv gcell gfz gbk hn0 hcI h1
    simp only [Nat.zero_add, Nat.reduceAdd, Nat.reduceSub] at hsub hns hK ⊢
    go_enter Tryz.func84, Tryz.ntmps84
    go_wp2_with fail
    refine (read_ok w p).mono ?_
    rintro e w1 ⟨rfl, hr1, hb1⟩
    have hz1 := hb1.size
    go_wp2_with fail
    refine (hns.out _ _ hr1 hb1).mono ?_
    rintro e w2 ⟨v, rfl, A4, c4, rfl, ho4, hr4, hg4⟩
    have hb2 := below_rdr hb1 hg4 (Nat.le_refl _)
    obtain ⟨b4, cur4, rfl, hk4, hx4⟩ : ∃ b4 cur4, A4 = some ⟨b4, 0, none⟩ ∧ Bk w2 b4 3 cur4 ∧ ∀ j u, [Value.int .i64 v1, .int .i64 v2, .int .i64 v3, .int .i64 v4][j]? = some u → cur4[j]? = some u := by
      rcases ho4.2 with ⟨_, h⟩ | ⟨g, cap, cur, e, _, hh, _, _, _, htk⟩
      · omega
      · simp only [Value.slice.injEq, true_and] at e
        obtain ⟨rfl, -⟩ := e
        refine ⟨g, cur, rfl, hh, fun j u hu => ?_⟩
        rw [← htk, List.getElem?_take] at hu
        split at hu
        · simpa using hu
        · cases hu
    have m0 : w2.cell? ⟨b4, 0, none⟩ = some (.int .i64 v1) := (hk4.cell 0).trans (hx4 0 _ rfl)
    have m1 : w2.cell? ⟨b4, 1, none⟩ = some (.int .i64 v2) := (hk4.cell 1).trans (hx4 1 _ rfl)
    have m2 : w2.cell? ⟨b4, 2, none⟩ = some (.int .i64 v3) := (hk4.cell 2).trans (hx4 2 _ rfl)
    have m3 : w2.cell? ⟨b4, 3, none⟩ = some (.int .i64 v4) := (hk4.cell 3).trans (hx4 3 _ rfl)
    have hb4 : b4 < w2.heap.size := hk4.lt
    have k2 : w2.cell? ⟨G', q + 7, none⟩ = some (.slice A0 (rv 12).n c0) := ((bcell hb2).1 _ _ hpb).trans kp
    have hG2 : G' < w2.heap.size := Nat.lt_of_lt_of_le hpb hb2.size
    have HPW := HP.out.below hb2
    have hown := HPW.live.own 12 (by decide)
    rw [hv] at hown
    obtain ⟨A5, c5, w9, hrun, ho9, hg9, hl9⟩ := run_push elDelta 56 w2 Bd _ c0 A0 _ #[.int .i64 v1, .int .i64 v2, .int .i64 v3, .int .i64 v4] rfl hown (by simp [Value.oneCell']) (by omega) HPW.size
    rw [← hv] at hg9 hl9
    obtain ⟨cur9, hp9, hq9⟩ : ∃ cur, Bk w9 G' 59 cur ∧ cur[q + 7]? = some (rv 12).v := by
      obtain ⟨cur, hb9⟩ := Hgbk.out
      exact ⟨cur, Bk.grown (hb9.keep (hb2.block G' hpb)) hg9 (HPW.live.own 12 (by decide)) (by decide), by rw [← hb9.cell, kp, hv]⟩
    have hr9 := Bk.grown hr4 hg9 (HPW.live.own 12 (by decide)) (by decide)
    have x9 : w9.cell? ⟨G', q + 7, none⟩ = some (rv 12).v := (hp9.cell _).trans hq9
    have y9 := hp9.frozen (q + 7)
    have z9 : w9.cell? ⟨w.heap.size, 1, none⟩ = some (.int .i64 er) := hr9.cell 1
    have Hpush := Lib.hid (PSt.more_des (m := 1) (K' := K + 5) HPW Hs.out H0.out hg9 ho9 hl9 (ys := [⟨v1, v2, v3, v4⟩]) rfl (Fl.one (R := DeltaR) (⟨rfl, HI1.out, HI2.out, HI3.out, HI4.out⟩) rfl) (by omega))
    rw [← Hq.out] at Hpush
    have Hlow := Lib.hid (hb2.mono hB)
    have HQ := Lib.hid (KQ.below (cm := cm) hb2)
    clear hown ho9 hg9 hl9 hp9 hr9 HPW hb2 ho4 hr4 hg4 hb1 hr1 hk4 hx4 hq9
    go_wp2_with fail
    go_region
    all_goals
      go_wp2
      go_ret
      obtain ⟨rv', g1, g2, g3, -⟩ := Hpush.out
      exact StPost.fin HR.out (Hlow.out.trans g3) (HQ.out.trans g2) g1
  · have HR := Lib.hid (rDelta_no s l h1)
    have e1 : ((n : Int) == 5) = false := by simp; omega
    have e2 : ((n : Int) != 5) = true := by simp; omega
    clear hP hL hT h1 hn hs h0 hq
    go_enter Tryz.func84, Tryz.ntmps84
    go_wp2
    go_ret
    exact StPost.bad HR.out (Below.refl _ _)
end Go.Proofs.YtkijckccfookeaaGreatDoor
/- parse: contour. Printed by gen_pam.py. -/
namespace Go.Proofs.YtkijckccfookeaaGreatDoor
open Go.RowKit
attribute [-go_sem] Builtin.append_

set_option maxRecDepth 100000 in
set_option maxHeartbeats 4000000 in
theorem readContour_ok (w : World) (Bd p gm cm : Nat) (gl : Gl) (s : PS) (rv : Rows) (K : Nat) (A : Option Addr) (n c : Nat) (ws : List P3) (t : B) (l : List B) (hP : PSt w Bd p gm cm gl s rv K) (hL : LnAt w A n ws) (hT : txts ws = t :: l) (hK : K ≤ 1000000000) (hc : n ≤ c) {init : List Glyph} {g : Glyph} (hs : s.f.glyphs = init ++ [g]) {G n0 c9 q : Nat} (h0 : (rv 0).v = .slice (some ⟨G, 0, none⟩) n0 c9) (hq : q = init.length * 9) :
    Calls Tryz.prog 81 #[.pointer (some ⟨p, 0, none⟩), .slice A n c, .pointer (some ⟨G, q, none⟩)] w (StPost w Bd p gm cm gl (K + n) (rContour s l)) := by
  have hn : n = l.length + 1 := by rw [← hL.length]; exact txts_cons hT
  have hB := hP.size
  have hnn := hL.few
  by_cases hle : l = []
  · have HR : Hid (rContour s l = .error 22) := by
      show _ = _
      unfold rContour
      rw [if_neg (gl_ne hs), if_pos (.inl hle)]
    have hl0 : l.length = 0 := by rw [hle]; rfl
    have e1 : ((n : Int) < 2) := by omega
    clear hP hL hT hn hs h0 hq hle hl0
    go_enter Tryz.func81, Tryz.ntmps81
    go_wp2
    go_ret
    exact StPost.bad HR.out (Below.refl _ _)
  have hl1 : 1 ≤ l.length := by
    cases l with
    | nil => exact absurd rfl hle
    | cons a b => simp
  have hn2 : 2 ≤ n := by omega
  have e2n : ¬ ((n : Int) < 2) := by omega
  obtain ⟨A', hsub, hrd, hlen⟩ := hL.sub hc 1 1 rfl (by omega)
  have hare := Lib.hid (arePoints_ok w A' (n - 1) (c - 1) (ws.drop 1) hrd hlen (by omega))
  have hall : (ws.drop 1).all (fun x => ptOk x.2.2) = l.all ptOk := by rw [txts_all, txts_rest hT]
  rw [hall] at hare
  cases hok : l.all ptOk with
  | false =>
    rw [hok] at hare
    have HR : Hid (rContour s l = .error 22) := by
      show _ = _
      unfold rContour
      rw [if_neg (gl_ne hs), if_pos (.inr hok)]
    clear hok hall hP hL hT hrd hlen hn hs h0 hq hle
    go_enter Tryz.func81, Tryz.ntmps81
    go_wp2_with (go_at_call 130; refine hare.out.mono ?_; rintro e w1 ⟨rfl, hb1⟩)
    go_ret
    exact StPost.bad HR.out (hb1.mono hB)
  | true =>
    rw [hok] at hare
    have HP := Lib.hid hP
    obtain ⟨G', c9', ci, gv, -, -, hGb, gcell, gfz, gbk⟩ := hP.glyph_cells hs
    obtain ⟨rfl, hn0, rfl⟩ : G' = G ∧ init.length + 1 = n0 ∧ c9' = c9 := by rw [gv] at h0; simpa using h0
    have hpb : G' < w.heap.size := hGb
    obtain ⟨A0, c0, hv⟩ := hP.slice (i := 8) (by decide)
    have kp : w.cell? ⟨G', q + 3, none⟩ = some (rv 8).v := by rw [hq]; exact gcell 3 (by decide)
    rw [hv] at kp
    have hfew := hP.few 8 (by decide)
    have HR : Hid (rContour s l = fin (l.foldl ePt 0) { s with f := { s.f with glyphs := init ++ [{ g with points := g.points ++ l.map vPt, ends := g.ends ++ [((g.points.length + l.length : Nat) : Int) - 1] }] } }) := by
      show _ = _
      unfold rContour
      rw [if_neg (gl_ne hs), if_neg (by rw [hok]; simp [hle]), onLast_eq s _ hs]
    have hpl : g.points.length + l.length ≤ K + n := by
      have h5 : (rv 8).n = g.points.length := by
        rcases hP.fnt.gly.2 with ⟨e, _⟩ | ⟨init', g', ci, e1, -, -, -, h5, -⟩
        · rw [hs] at e; simp at e
        · rw [hs] at e1
          obtain ⟨rfl, e1⟩ := List.append_inj' e1 rfl
          obtain rfl : g = g' := by simpa using e1
          exact h5.1
      have := hP.few 8 (by decide)
      omega
    have hpn : Hid ((g.points ++ l.map vPt).length = g.points.length + l.length) := by show _ = _; simp
    have Hs := Lib.hid hs
    have Hq := Lib.hid hq
    have H0 := Lib.hid h0
    have Hgbk := Lib.hid gbk
    have hns := Lib.hid (fun w1 rb (hr : Rdr w1 rb p 0) (hb : Below w.heap.size w w1) (hb9 : w.heap.size ≤ rb) => points_ok w1 rb p 0 A' (n - 1) (c - 1) (ws.drop 1) hr (hrd.below hb) hlen (by omega))
    rw [txts_rest hT] at hns
    have hll : l.length = n - 1 := by omega
    have hfl := Lib.hid (fun (w : World) S => pt_fl w S (l.map vPt) (vPt_i64 l))
    have hlm : Hid (n - 1 = (l.map vPt).length) := by show _ = _; simp [hll]
    have hone := Lib.hid (ptC_one (l.map vPt))
    have hnn1 : n - 1 ≤ n := by omega
    have hn1 : 1 ≤ n := by omega
    clear hP hL hT hrd hlen hll hn hall hok hle hs h0 hq gv gcell gfz gbk hn0
    go_enter Tryz.func81, Tryz.ntmps81
    go_wp2_with (go_at_call 130; refine hare.out.mono ?_; rintro e w0 ⟨rfl, hb0⟩)
    go_wp2_with fail
    refine (read_ok w0 p).mono ?_
    rintro e w1 ⟨rfl, hr1, hb01⟩
    have hb1 : Below w.heap.size w w1 := hb0.trans (hb01.mono hb0.size)
    have k1 : w1.cell? ⟨G', q + 3, none⟩ = some (.slice A0 (rv 8).n c0) := ((bcell hb1).1 _ _ hpb).trans kp
    have k1d : w1.drew.cell? ⟨G', q + 3, none⟩ = some (.slice A0 (rv 8).n c0) := k1
    have hz0 := hb0.size
    have hz1 := hb1.size
    have hlr := hr1.lt
    have Hr1 := Lib.hid hr1
    have Hb1 := Lib.hid hb1
    clear hr1 hb1 hb0 hb01
    go_wp2_with fail
    go_region_with (go_at_call 131; refine (hns.out _ _ (by exact Hr1.out) (by exact Hb1.out.drew) hz0).mono ?_; rintro e w2 ⟨v, rfl, A4, c4, rfl, ho4, hr4, hg4⟩; have hb2 := below_rdr Hb1.out.drew hg4 hz0; have HPW := HP.out.below hb2; have hown := HPW.live.own 8 (by decide); rw [hv] at hown; have hrd4 := (own_rdT ho4).rd; obtain ⟨A5, c5, w9, hrun, ho9, hg9, hl9⟩ := run_more elPt 51 w2 Bd _ c0 A0 _ _ A4 (n - 1) c4 _ hown hrd4 hone.out (by omega) HPW.size; have k2 : w2.cell? ⟨G', q + 3, none⟩ = some (.slice A0 (rv 8).n c0) := ((bcell hb2).1 _ _ hpb).trans kp; rw [← hv] at hg9 hl9; obtain ⟨cur9, hp9, hq9⟩ : ∃ cur, Bk w9 G' 59 cur ∧ cur[q + 3]? = some (rv 8).v := (by obtain ⟨cur, hb9⟩ := Hgbk.out; exact ⟨cur, Bk.grown (hb9.keep (hb2.block G' hpb)) hg9 (HPW.live.own 8 (by decide)) (by decide), by rw [← hb9.cell, kp, hv]⟩); have hr9 := Bk.grown hr4 hg9 (HPW.live.own 8 (by decide)) (by decide); have x9 : w9.cell? ⟨G', q + 3, none⟩ = some (rv 8).v := (hp9.cell _).trans hq9; have y9 := hp9.frozen (q + 3); have z9 : w9.cell? ⟨w0.heap.size, 1, none⟩ = some (.int .i64 (l.foldl ePt 0)) := hr9.cell 1; have Hr9 := Lib.hid hr9; have Hpush := Lib.hid (PSt.more_pts (m := n - 1) (K' := K + (n - 1)) HPW Hs.out H0.out hg9 ho9 hl9 hlm.out (hfl.out _ _) (by omega)); rw [← Hq.out] at Hpush; have Hlow := Lib.hid (hb2.mono hB); have HQ := Lib.hid (KQ.below (cm := cm) hb2); clear hown ho9 hg9 hl9 hp9 hr9 HPW hb2 ho4 hr4 hg4 hrd4)
    all_goals
      obtain ⟨rv5, HP5, HQ5, HB5, hv5⟩ := Hpush.out
      obtain ⟨W5, hW5⟩ : ∃ W5, w9.setCell ⟨G', q + 3, none⟩ (.slice A5 ((rv 8).n + (n - 1)) c5) = W5 := ⟨_, rfl⟩
      rw [hW5] at HP5 HQ5 HB5 ⊢
      have hr5 : Rdr W5 w0.heap.size p (l.foldl ePt 0) := by rw [← hW5]; exact Bk.far Hr9.out (by simp; omega) _
      have hv50 := hv5.trans H0.out
      obtain ⟨G2, c2, ci2, gv2, -, -, hG2, gcell2, gfz2, gbk2⟩ := HP5.glyph_cells (init := init) rfl
      obtain ⟨rfl, -, rfl⟩ : G2 = G' ∧ init.length + 1 = n0 ∧ c2 = c9' := by rw [gv2] at hv50; simpa using hv50
      obtain ⟨A8, c8, hv8⟩ := HP5.slice (i := 8) (by decide)
      obtain ⟨A9, c90, hv9⟩ := HP5.slice (i := 9) (by decide)
      have q8 : W5.cell? ⟨G2, q + 3, none⟩ = some (rv5 8).v := by rw [Hq.out]; exact gcell2 3 (by decide)
      have q9 : W5.cell? ⟨G2, q + 3 + 1, none⟩ = some (rv5 9).v := by rw [Hq.out]; exact gcell2 4 (by decide)
      rw [hv8] at q8
      rw [hv9] at q9
      have hm8 : (rv5 8).n = g.points.length + l.length := by
        rcases HP5.fnt.gly.2 with ⟨e, _⟩ | ⟨init', g', ci, e1, -, -, -, h5, -⟩
        · simp at e
        · obtain ⟨rfl, e1⟩ := List.append_inj' e1 rfl
          obtain rfl : _ = g' := by simpa using e1
          exact h5.1.trans hpn.out
      have hG5 : G2 < W5.heap.size := hG2
      have hown9 := HP5.live.own 9 (by decide)
      have hfew9 := HP5.few 9 (by decide)
      rw [hv9] at hown9
      have hI : I64 (((rv5 8).n : Int) - 1) := ⟨by omega, by omega⟩
      obtain ⟨A6, c6, w10, hrun6, ho10, hg10, hl10⟩ := run_push elInt 22 W5 Bd _ c90 A9 _ #[.int .i64 (((rv5 8).n : Int) - 1)] rfl hown9 (by simp [Value.oneCell']) (by omega) HP5.size
      rw [← hv9] at hg10 hl10
      obtain ⟨cur10, hp10, hq10⟩ : ∃ cur, Bk w10 G2 59 cur ∧ cur[q + 3 + 1]? = some (rv5 9).v := by
        obtain ⟨cur, hb9⟩ := gbk2
        exact ⟨cur, Bk.grown hb9 hg10 (HP5.live.own 9 (by decide)) (by decide), by rw [← hb9.cell, q9, hv9]⟩
      have hr10 := Bk.grown hr5 hg10 (HP5.live.own 9 (by decide)) (by decide)
      have x10 : w10.cell? ⟨G2, q + 3 + 1, none⟩ = some (rv5 9).v := (hp10.cell _).trans hq10
      have y10 := hp10.frozen (q + 3 + 1)
      have z10 : w10.cell? ⟨w0.heap.size, 1, none⟩ = some (.int .i64 (l.foldl ePt 0)) := hr10.cell 1
      have Hpush2 := PSt.more_ens (m := 1) (K' := K + n) HP5 (init := init) rfl hv50 hg10 ho10 hl10 (ys := [((rv5 8).n : Int) - 1]) rfl (Fl.one (R := IntR) ⟨rfl, hI⟩ rfl) (by omega)
      rw [← Hq.out] at Hpush2
      have Hpush2 := Lib.hid Hpush2
      have hlen1 : 1 ≤ (rv5 8).n := by omega
      have hlen2 : (rv5 8).n ≤ 100000000000 := by omega
      have Hm8 := Lib.hid hm8
      have Hlow5 := Lib.hid (Hlow.out.trans HB5)
      have HQ5' := Lib.hid (HQ.out.trans HQ5)
      clear hv5 hv50 gv2 gcell2 gfz2 gbk2 hown9 ho10 hg10 hl10 hp10 hq10 hr10 hr5 HP5 HB5 HQ5 hm8 hW5 Hpush hv8 hv9
      generalize (rv5 8).n = m8 at *
      go_wp2_with fail
      go_region
      all_goals
        go_wp2
        go_ret
        obtain ⟨rv', g1, g2, g3, -⟩ := Hpush2.out
        refine StPost.fin ?_ (Hlow5.out.trans g3) (HQ5'.out.trans g2) g1
        rw [HR.out, Hm8.out]
end Go.Proofs.YtkijckccfookeaaGreatDoor
/- Plain Lean: the statements of a right font's things, read. -/
namespace Go.Proofs.YtkijckccfookeaaGreatDoor
open Go.RowKit

structure GlOk (gl : Gl) (gs : List Glyph) : Prop where
  at' : ∀ (i : Nat) (g : Glyph), gs[i]? = some g → gl.lookup g.name = some i
  names : ∀ g ∈ gs, nameB g.name = true
theorem gn_ok {gl : Gl} {gs : List Glyph} (h : GlOk gl gs) {n : Int} (hn : In gs.length n) : gl.lookup (gnB gs n) = some n.toNat ∧ nameB (gnB gs n) = true := by
  obtain ⟨h1, h2⟩ := hn
  have hlt : n.toNat < gs.length := by omega
  have e : gs[n.toNat]? = some gs[n.toNat] := List.getElem?_eq_getElem hlt
  have e2 : gnB gs n = gs[n.toNat].name := by
    unfold gnB
    rw [if_neg (by omega), e]
  rw [e2]
  exact ⟨h.at' _ _ e, h.names _ (List.getElem_mem hlt)⟩
theorem eGl_ok {gl : Gl} {gs : List Glyph} (h : GlOk gl gs) {n : Int} (hn : In gs.length n) (e : Int) : eGl gl e (gnB gs n) = e ∧ vGl gl (gnB gs n) = n := by
  obtain ⟨h1, -⟩ := gn_ok h hn
  obtain ⟨h3, h4⟩ := hn
  rw [eGl, vGl, h1]
  refine ⟨by simp, ?_⟩
  simp
  omega
theorem eGls_ok {gl : Gl} {gs : List Glyph} (h : GlOk gl gs) (l : List Int) (hl : ∀ n ∈ l, In gs.length n) (e : Int) : eGls gl e (l.map (gnB gs)) = e ∧ (l.map (gnB gs)).map (vGl gl) = l := by
  induction l generalizing e with
  | nil => exact ⟨rfl, rfl⟩
  | cons n r ih =>
    obtain ⟨a1, a2⟩ := eGl_ok h (hl n (by simp)) e
    obtain ⟨b1, b2⟩ := ih (fun m hm => hl m (by simp [hm])) e
    refine ⟨?_, ?_⟩
    · have : eGls gl e ((n :: r).map (gnB gs)) = eGls gl (eGl gl e (gnB gs n)) (r.map (gnB gs)) := rfl
      rw [this, a1, b1]
    · rw [List.map_cons, List.map_cons, a2, b2]
/-- sets -/
theorem setOne_name {gl : Gl} {cls : List (B × List Int)} {s : B} {n : Nat} (hs : nameB s = true) (hl : gl.lookup s = some n) : setOne gl cls s = .ok [(n : Int)] := by
  unfold setOne
  split
  · exact absurd rfl ((name_c hs 64 (by simp)).2.2.2.2.1)
  · rw [hl]
theorem setGo_names {gl : Gl} {gs : List Glyph} (h : GlOk gl gs) (cls : List (B × List Int)) (s : List Int) (hs : ∀ n ∈ s, In gs.length n) (acc : List Int) (hl : acc.length + s.length ≤ 1000) : setGo gl cls acc (s.map (gnB gs)) = .ok (acc ++ s) := by
  induction s generalizing acc with
  | nil => simp [setGo]
  | cons n r ih =>
    obtain ⟨h1, h2⟩ := gn_ok h (hs n (by simp))
    have h3 := (hs n (by simp)).1
    rw [List.map_cons, setGo, setOne_name h2 h1]
    have e : ((n.toNat : Nat) : Int) = n := by omega
    simp only [e]
    rw [if_neg (by simp only [List.length_append, List.length_cons, List.length_nil] at hl ⊢; omega), ih (fun m hm => hs m (by simp [hm])) _ (by simp only [List.length_append, List.length_cons, List.length_nil] at hl ⊢; omega)]
    simp
theorem rowsGo_names {gl : Gl} {gs : List Glyph} (h : GlOk gl gs) (cls : List (B × List Int)) (l : List (List Int)) (hl : ∀ s ∈ l, (∀ n ∈ s, In gs.length n) ∧ s.length ≤ 1000) : rowsGo gl cls (l.map (fun s => s.map (gnB gs))) = .ok l := by
  induction l with
  | nil => rfl
  | cons s r ih =>
    obtain ⟨h1, h2⟩ := hl s (by simp)
    rw [List.map_cons, rowsGo, setGo_names h cls s h1 [] (by simpa using h2), ih (fun x hx => hl x (by simp [hx]))]
    simp
theorem setsT_in (names : List B) (hn : ∀ w ∈ names, w ≠ [91] ∧ w ≠ [93]) (row : List B) (told : List (List B)) (rest : List B) : setsGoT true row told (names ++ [93] :: rest) = setsGoT false [] (told ++ [row ++ names]) rest := by
  induction names generalizing row with
  | nil => simp [setsGoT]
  | cons w r ih =>
    obtain ⟨h1, h2⟩ := hn w (by simp)
    rw [List.cons_append, setsGoT, if_neg h1, if_neg h2, if_pos rfl, ih (fun x hx => hn x (by simp [hx]))]
    simp
theorem name_br {s : B} (h : nameB s = true) : s ≠ [91] ∧ s ≠ [93] ∧ s ≠ [47] ∧ s ≠ [62] := by
  refine ⟨?_, ?_, ?_, ?_⟩ <;> (rintro rfl; revert h; decide)
theorem setsT_one {gl : Gl} {gs : List Glyph} (h : GlOk gl gs) (s : List Int) (hs : ∀ n ∈ s, In gs.length n) (told : List (List B)) (rest : List B) : setsGoT false [] told (setW gs s ++ rest) = setsGoT false [] (told ++ [s.map (gnB gs)]) rest := by
  have hb : ∀ n ∈ s, gnB gs n ≠ [91] ∧ gnB gs n ≠ [93] := fun n hn => by
    have := name_br (gn_ok h (hs n hn)).2
    exact ⟨this.1, this.2.1⟩
  by_cases h1 : s.length = 1
  · match s, h1 with
    | [n], _ =>
      obtain ⟨b1, b2⟩ := hb n (by simp)
      show setsGoT false [] told (gnB gs n :: rest) = _
      rw [setsGoT, if_neg b1, if_neg b2]
      simp
  · have e : setW gs s = [91] :: s.map (gnB gs) ++ [[93]] := by
      unfold setW
      split
      · simp at h1
      · rfl
    rw [e]
    simp only [List.cons_append, List.append_assoc, List.nil_append]
    rw [setsGoT, if_pos rfl]
    simp only [Bool.false_eq_true, if_false]
    rw [setsT_in _ (fun w hw => by
      rw [List.mem_map] at hw
      obtain ⟨n, hn, rfl⟩ := hw
      exact hb n hn)]
    simp
theorem setsT_ok {gl : Gl} {gs : List Glyph} (h : GlOk gl gs) (l : List (List Int)) (hl : ∀ s ∈ l, ∀ n ∈ s, In gs.length n) : setsT (setsW gs l) = some (l.map (fun s => s.map (gnB gs))) := by
  suffices key : ∀ told, setsGoT false [] told (setsW gs l) = some (told ++ l.map (fun s => s.map (gnB gs))) by simpa [setsT] using key []
  induction l with
  | nil => intro told; simp [setsW, setsGoT]
  | cons s r ih =>
    intro told
    have e : setsW gs (s :: r) = setW gs s ++ setsW gs r := by simp [setsW]
    rw [e, setsT_one h s (hl s (by simp)), ih (fun x hx => hl x (by simp [hx]))]
    simp
theorem setW_words {gl : Gl} {gs : List Glyph} (h : GlOk gl gs) (l : List (List Int)) (hl : ∀ s ∈ l, ∀ n ∈ s, In gs.length n) : ∀ w ∈ setsW gs l, w ≠ [47] ∧ w ≠ [62] ∧ tokB w = true := by
  intro w hw
  simp only [setsW, List.mem_flatMap] at hw
  obtain ⟨s, hs, hw⟩ := hw
  have hn : ∀ n ∈ s, gnB gs n ≠ [47] ∧ gnB gs n ≠ [62] ∧ tokB (gnB gs n) = true := fun n hn => by
    have h1 := (gn_ok h (hl s hs n hn)).2
    have := name_br h1
    exact ⟨this.2.2.1, this.2.2.2, name_tok h1⟩
  have key : w ∈ [91] :: s.map (gnB gs) ++ [[93]] ∨ w ∈ s.map (gnB gs) := by
    unfold setW at hw
    split at hw
    · exact .inr (by simpa using hw)
    · exact .inl hw
  have : w = [91] ∨ w = [93] ∨ ∃ n ∈ s, gnB gs n = w := by
    rcases key with hk | hk
    · simp only [List.cons_append, List.mem_cons, List.mem_append, List.mem_map, List.not_mem_nil, or_false] at hk
      rcases hk with hk | ⟨n, hn, e⟩ | hk
      · exact .inl hk
      · exact .inr (.inr ⟨n, hn, e⟩)
      · exact .inr (.inl hk)
    · rw [List.mem_map] at hk
      exact .inr (.inr hk)
  rcases this with rfl | rfl | ⟨n, hns, rfl⟩
  · decide
  · decide
  · exact hn n hns
/-- a rule's four parts -/
theorem parts_run (ws : List B) (hw : ∀ w ∈ ws, w ≠ [47] ∧ w ≠ [62]) (n : Nat) (cur : List B) (told : List (List B)) (rest : List B) : partsGo n cur told (ws ++ rest) = partsGo n (cur ++ ws) told rest := by
  induction ws generalizing cur with
  | nil => simp
  | cons w r ih =>
    rw [List.cons_append, partsGo, if_pos (hw w (by simp)), ih (fun x hx => hw x (by simp [hx]))]
    simp
theorem parts_ok (a b c d : List B) (ha : ∀ w ∈ a, w ≠ [47] ∧ w ≠ [62]) (hb : ∀ w ∈ b, w ≠ [47] ∧ w ≠ [62]) (hc : ∀ w ∈ c, w ≠ [47] ∧ w ≠ [62]) (hd : ∀ w ∈ d, w ≠ [47] ∧ w ≠ [62]) :
    partsT (a ++ [47] :: b ++ [47] :: c ++ [62] :: d) = some [a, b, c, d] := by
  have e : a ++ [47] :: b ++ [47] :: c ++ [62] :: d = a ++ ([47] :: (b ++ ([47] :: (c ++ ([62] :: (d ++ [])))))) := by simp
  rw [e, partsT, parts_run a ha, partsGo, if_neg (by simp), if_pos (by simp), parts_run b hb, partsGo, if_neg (by simp), if_pos (by simp), parts_run c hc, partsGo, if_neg (by simp), if_pos (by simp), parts_run d hd, partsGo]
  simp
/-- sets that are sets already -/
theorem insS_front (n : Int) (s : List Int) (h : ∀ x ∈ s, n < x) : insS n s = n :: s := by
  cases s with
  | nil => rfl
  | cons x r => rw [insS, if_pos (h x (by simp))]
theorem setOf_id (s : List Int) (h : s.Pairwise (· < ·)) : setOf s = s := by
  induction s with
  | nil => rfl
  | cons n r ih =>
    obtain ⟨h1, h2⟩ := List.pairwise_cons.1 h
    have e : setOf (n :: r) = insS n (setOf r) := rfl
    rw [e, ih h2, insS_front n r h1]
theorem oks_len {n : Nat} {s : List Int} (h : OkS n s) : s.length ≤ n := by
  obtain ⟨h1, h2⟩ := h
  suffices key : ∀ (s : List Int) (lo : Int), s.Pairwise (· < ·) → (∀ x ∈ s, lo ≤ x ∧ x < n) → (s.length : Int) ≤ max 0 (n - lo) by
    have := key s 0 h1 (fun x hx => h2 x hx)
    omega
  intro s
  induction s with
  | nil => intro lo _ _; simp; omega
  | cons x r ih =>
    intro lo hp hr
    obtain ⟨h3, h4⟩ := List.pairwise_cons.1 hp
    have h5 := hr x (by simp)
    have := ih (x + 1) h4 (fun y hy => ⟨by have := h3 y hy; omega, (hr y (by simp [hy])).2⟩)
    simp only [List.length_cons]
    omega
theorem nodup_of_lt {s : List Int} (h : s.Pairwise (· < ·)) : s.Nodup := h.imp (fun hab e => by omega)
theorem map_idx (s out : List Int) (hn : s.Nodup) (hl : out.length = s.length) : s.map (fun g => out.getD (s.idxOf g) 0) = out := by
  apply List.ext_getElem (by simp [hl])
  intro i h1 h2
  rw [List.getElem_map]
  have h3 : i < s.length := by simpa using h1
  rw [List.Nodup.idxOf_getElem hn i h3]
  simp [List.getD, h2]
theorem rtSortOut_ok (s out : List Int) (hs : s.Pairwise (· < ·)) (hl : out.length = s.length) : sortOut s out = .ok out := by
  rw [sortOut, if_neg (by simpa using nodup_of_lt hs), if_neg (by simpa using hl), setOf_id s hs, map_idx s out (nodup_of_lt hs) hl]
/-- calls -/
theorem rtCall_ok (c : Call) (h : N9 c.at' ∧ N9 c.lookup) (e : Int) : eCall e (itB c.at' ++ 58 :: itB c.lookup) = e ∧ vCall (itB c.at' ++ 58 :: itB c.lookup) = c ∧ (itB c.at' ++ 58 :: itB c.lookup).count 58 = 1 ∧ tokB (itB c.at' ++ 58 :: itB c.lookup) = true := by
  obtain ⟨h1, h2⟩ := h
  have n1 : ∀ d ∈ itB c.at', d ≠ 58 := fun d hd => (numC_tok (it_c _ d hd)).2.1
  have n2 : ∀ d ∈ itB c.lookup, d ≠ 58 := fun d hd => (numC_tok (it_c _ d hd)).2.1
  obtain ⟨c1, c2⟩ := cut_at (b := itB c.lookup) n1
  refine ⟨?_, ?_, ?_, ?_⟩
  · rw [eCall, c1, c2, eNum_ok _ h1, eNum_ok _ h2]
  · rw [vCall, c1, c2, (it_num _ h1).2, (it_num _ h2).2]
  · rw [List.count_append, List.count_cons, count_none n1, count_none n2]
    simp
  · simp only [tokB, Bool.and_eq_true, Bool.not_eq_true', List.isEmpty_eq_false_iff, List.all_eq_true, List.mem_append, List.mem_cons]
    refine ⟨by simp, fun d hd => ?_⟩
    rcases hd with hd | rfl | hd
    · exact (numC_tok (it_c _ d hd)).1
    · decide
    · exact (numC_tok (it_c _ d hd)).1
theorem rtCalls_ok (l : List Call) (h : ∀ c ∈ l, N9 c.at' ∧ N9 c.lookup) (e : Int) : (l.map (fun c => itB c.at' ++ 58 :: itB c.lookup)).foldl eCall e = e ∧ (l.map (fun c => itB c.at' ++ 58 :: itB c.lookup)).map vCall = l ∧
    callsOk (l.map (fun c => itB c.at' ++ 58 :: itB c.lookup)) = true ∧ ∀ w ∈ l.map (fun c => itB c.at' ++ 58 :: itB c.lookup), tokB w = true := by
  induction l generalizing e with
  | nil => exact ⟨rfl, rfl, rfl, by simp⟩
  | cons c r ih =>
    obtain ⟨a1, a2, a3, a4⟩ := rtCall_ok c (h c (by simp)) e
    obtain ⟨b1, b2, b3, b4⟩ := ih (fun d hd => h d (by simp [hd])) e
    refine ⟨?_, ?_, ?_, ?_⟩
    · rw [List.map_cons, List.foldl_cons, a1, b1]
    · rw [List.map_cons, List.map_cons, a2, b2]
    · unfold callsOk at b3 ⊢
      rw [List.map_cons, List.all_cons, b3, a3]
      rfl
    · intro w hw
      rw [List.map_cons, List.mem_cons] at hw
      rcases hw with rfl | hw
      · exact a4
      · exact b4 w hw
end Go.Proofs.YtkijckccfookeaaGreatDoor
