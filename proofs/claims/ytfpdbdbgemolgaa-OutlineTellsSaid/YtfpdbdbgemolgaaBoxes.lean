/- The walk of fleuronlaw03.OutlineBoxes: it returns true, and what was there is as it was. -/
import Derived.Deep.RegionHeld3
import Derived.Test.YtfpdbdbgemolgaaTurns
import Derived.Test.YtfpdbdbgemolgaaPureBox

namespace Go.Proofs.Ytfpdbdbgemolgaa
open Go.RowKit

theorem run_eql43 (w : World) : (binOp .eql 43 (.agg #[.bool true, .bool true, .bool true, .bool true]) (.agg #[.bool true, .bool true, .bool true, .bool true])).run Try.prog w = .ok (.bool true) w := by kernel_rfl
theorem eg43 : Try.prog.eqGuardType Try.prog.depth 43 = false := by kernel_rfl
theorem box_at (w : World) (B : Nat) (A E : Option Addr) (n c m d : Nat) (ps : List P3) (lo hi : P2) (z : Bool) (h1 : lowP ps = lo) (h2 : highP ps = hi) (h3 : decide (0 < ps.length) = z) (hA : Rd w B A n 3 (c3s ps)) (hB : B ≤ w.heap.size) (hn : n ≤ 9223372036854775807) :
    Calls Try.prog 24 #[.agg #[.slice A n c, .slice E m d]] w fun e w' => e = .returned (.tuple #[.agg #[.int .i64 lo.1, .int .i64 lo.2, .bool false], .agg #[.int .i64 hi.1, .int .i64 hi.2, .bool false], .bool z]) ∧ Below w.heap.size w w' := by
  subst h1 h2 h3
  exact box_ok w B A E n c m d ps hA hB hn

set_option maxRecDepth 100000 in
set_option maxHeartbeats 4000000 in
theorem boxes_no (w : World) (A E : Option Addr) (n c m d : Nat) (ps : List P3) (es : List Int) (x y : Int) (hA : Rd w w.heap.size A n 3 (c3s ps)) (hE : Rd w w.heap.size E m 1 (cIs es)) (hn : n ≤ 9223372036854775807)
    (h : ¬ (rightB ps es = true ∧ x ≤ 100000 ∧ -100000 ≤ x ∧ y ≤ 100000 ∧ -100000 ≤ y)) :
    Calls Try.prog 6 #[.agg #[.slice A n c, .slice E m d], .int .i64 x, .int .i64 y] w fun e w' => e = .returned (.bool true) ∧ Below w.heap.size w w' := by
  obtain ⟨lo, hlo⟩ : ∃ lo, lowP ps = lo := ⟨_, rfl⟩
  obtain ⟨hi, hhi⟩ : ∃ hi, highP ps = hi := ⟨_, rfl⟩
  obtain ⟨z, hz⟩ : ∃ z, decide (0 < ps.length) = z := ⟨_, rfl⟩
  have Hlo := Lib.hid hlo
  have Hhi := Lib.hid hhi
  have Hz := Lib.hid hz
  clear hlo hhi hz
  obtain ⟨R, hR⟩ : ∃ R, rightB ps es = R := ⟨_, rfl⟩
  have hcase : R = false ∨ (R = true ∧ decide (100000 < x) = true) ∨ (R = true ∧ decide (100000 < x) = false ∧ decide (x < -100000) = true) ∨ (R = true ∧ decide (100000 < x) = false ∧ decide (x < -100000) = false ∧ decide (100000 < y) = true) ∨ (R = true ∧ decide (100000 < x) = false ∧ decide (x < -100000) = false ∧ decide (100000 < y) = false ∧ decide (y < -100000) = true) := by
    rw [hR] at h
    cases R
    · exact .inl rfl
    · refine .inr ?_
      simp only [true_and, decide_eq_true_eq, decide_eq_false_iff_not] at h ⊢
      omega
  have HR := Lib.hid hR
  clear hR h
  go_enter Try.func6, Try.ntmps6
  go_wp2_with fail
  refine (box_at _ w.heap.size A E n c m d ps lo hi z Hlo.out Hhi.out Hz.out (hA.alloc (Nat.le_refl _) _) (by simp) hn).mono ?_
  rintro e w1 ⟨rfl, hb1⟩
  have k0 : w1.cell? ⟨w.heap.size, 0, none⟩ = some (.slice A n c) := (hb1.cell (p := ⟨w.heap.size, 0, none⟩) (by simp)).trans (by simp [go_sem])
  have k1 : w1.cell? ⟨w.heap.size, 1, none⟩ = some (.slice E m d) := (hb1.cell (p := ⟨w.heap.size, 1, none⟩) (by simp)).trans (by simp [go_sem])
  have bw1 : Below w.heap.size w w1 := ((Below.refl _ w).alloc (Nat.le_refl _) _).trans (hb1.mono (by simp))
  have hz1 : w.heap.size < w1.heap.size := by have := hb1.size; simp at this; omega
  clear hb1
  rcases hcase with rfl | ⟨rfl, g1⟩ | ⟨rfl, g1, g2⟩ | ⟨rfl, g1, g2, g3⟩ | ⟨rfl, g1, g2, g3, g4⟩
  all_goals
    go_wp2_with fail
    refine (right_at _ w.heap.size A E n c m d ps es _ HR.out (((hA.below bw1 (Nat.le_refl _)).alloc (by omega) _).alloc (by simp; omega) _) (((hE.below bw1 (Nat.le_refl _)).alloc (by omega) _).alloc (by simp; omega) _) (by simp; omega) hn).mono ?_
    rintro e w2 ⟨rfl, hb2⟩
    have bw2 : Below w.heap.size w w2 := ((bw1.alloc (by omega) _).alloc (by simp; omega) _).trans (hb2.mono (by simp; omega))
    go_wp2_with fail
    refine (drawn_ok _).mono ?_
    rintro e w3 ⟨rfl, hb3⟩
    have bw3 : Below w.heap.size w w3 := bw2.trans (hb3.mono bw2.size)
    go_wp2
    go_ret
    exact ⟨rfl, bw3⟩

/-- is there one of the first k with this? -/
def anyTo (ps : List P3) (f : P3 → Int) (z : Int) (k : Nat) : Bool := (ps.take k).any fun p => f p == z
theorem anyTo_succ (ps : List P3) (f : P3 → Int) (z : Int) (k : Nat) (p : P3) (h : ps[k]? = some p) : anyTo ps f z (k + 1) = (anyTo ps f z k || (f p == z)) := by
  obtain ⟨hk, hg⟩ := List.getElem?_eq_some_iff.1 h
  unfold anyTo
  rw [List.take_succ_eq_append_getElem hk, hg]
  simp
theorem anyTo_all (ps : List P3) (f : P3 → Int) (z : Int) (k : Nat) (hk : ps.length ≤ k) (h : ∃ p ∈ ps, f p = z) : anyTo ps f z k = true := by
  obtain ⟨p, hp, he⟩ := h
  unfold anyTo
  rw [List.take_of_length_le hk, List.any_eq_true]
  exact ⟨p, hp, by simp [he]⟩

set_option maxRecDepth 100000 in
set_option maxHeartbeats 8000000 in
theorem boxes_yes (w : World) (A E : Option Addr) (n c m d : Nat) (ps : List P3) (es : List Int) (x y : Int) (hA : Rd w w.heap.size A n 3 (c3s ps)) (hE : Rd w w.heap.size E m 1 (cIs es))
    (hR : rightB ps es = true) (hx1 : x ≤ 100000) (hx2 : -100000 ≤ x) (hy1 : y ≤ 100000) (hy2 : -100000 ≤ y) :
    Calls Try.prog 6 #[.agg #[.slice A n c, .slice E m d], .int .i64 x, .int .i64 y] w fun e w' => e = .returned (.bool true) ∧ Below w.heap.size w w' := by
  obtain ⟨hr1, hr2, hr3, -⟩ := rightB_true ps es hR
  have hlen := hA.len3
  have helen := hE.lenI
  rw [hlen] at hr1
  rw [helen] at hr2
  obtain ⟨lx, ly, hlo⟩ : ∃ lx ly, lowP ps = (lx, ly) := ⟨_, _, rfl⟩
  obtain ⟨ux, uy, hhi⟩ : ∃ ux uy, highP ps = (ux, uy) := ⟨_, _, rfl⟩
  obtain ⟨z, hz⟩ : ∃ z, decide (0 < ps.length) = z := ⟨_, rfl⟩
  have hcn : Hid (0 < n → (∀ p ∈ ps, lx ≤ p.1 ∧ p.1 ≤ ux ∧ ly ≤ p.2.1 ∧ p.2.1 ≤ uy) ∧ (∃ p ∈ ps, p.1 = lx) ∧ (∃ p ∈ ps, p.1 = ux) ∧ (∃ p ∈ ps, p.2.1 = ly) ∧ (∃ p ∈ ps, p.2.1 = uy)) := fun h0 => by
    have := corners ps (fun e => by rw [e] at hlen; simp at hlen; omega)
    rw [hlo, hhi] at this
    exact this
  have hcm : Hid (0 < n → lowP (ps.map (mv x y)) = (lx + x, ly + y) ∧ highP (ps.map (mv x y)) = (ux + x, uy + y)) := fun h0 => by
    have := corners_mv ps (fun e => by rw [e] at hlen; simp at hlen; omega) x y (fun p hp => by
      have := hr3 p hp
      exact ⟨IntWalk.wrap64_in _ ⟨by omega, by omega⟩, IntWalk.wrap64_in _ ⟨by omega, by omega⟩⟩)
    rw [hlo, hhi] at this
    exact this
  have hb : 0 < n → (-16384 ≤ lx ∧ lx ≤ 16384) ∧ (-16384 ≤ ly ∧ ly ≤ 16384) ∧ (-16384 ≤ ux ∧ ux ≤ 16384) ∧ (-16384 ≤ uy ∧ uy ≤ 16384) := fun h0 => by
    obtain ⟨-, ⟨p1, m1, e1⟩, ⟨p2, m2, e2⟩, ⟨p3, m3, e3⟩, ⟨p4, m4, e4⟩⟩ := hcn.out h0
    have := hr3 p1 m1
    have := hr3 p2 m2
    have := hr3 p3 m3
    have := hr3 p4 m4
    omega
  have Hb := Lib.hid hb
  have Hlo := Lib.hid hlo
  have Hhi := Lib.hid hhi
  have Hz := Lib.hid hz
  have HR := Lib.hid hR
  have Hlen := Lib.hid hlen
  have g1 : decide (100000 < x) = false := by simp; omega
  have g2 : decide (x < -100000) = false := by simp; omega
  have g3 : decide (100000 < y) = false := by simp; omega
  have g4 : decide (y < -100000) = false := by simp; omega
  clear hlo hhi hz hb hR hlen helen hr3
  go_enter Try.func6, Try.ntmps6
  go_wp2_with fail
  refine (box_at _ w.heap.size A E n c m d ps (lx, ly) (ux, uy) z Hlo.out Hhi.out Hz.out (hA.alloc (Nat.le_refl _) _) (by simp) (by omega)).mono ?_
  rintro e w1 ⟨rfl, hb1⟩
  have k0 : w1.cell? ⟨w.heap.size, 0, none⟩ = some (.slice A n c) := (hb1.cell (p := ⟨w.heap.size, 0, none⟩) (by simp)).trans (by simp [go_sem])
  have k1 : w1.cell? ⟨w.heap.size, 1, none⟩ = some (.slice E m d) := (hb1.cell (p := ⟨w.heap.size, 1, none⟩) (by simp)).trans (by simp [go_sem])
  have bw1 : Below w.heap.size w w1 := ((Below.refl _ w).alloc (Nat.le_refl _) _).trans (hb1.mono (by simp))
  have hz1 : w.heap.size < w1.heap.size := by have := hb1.size; simp at this; omega
  clear hb1
  go_wp2_with fail
  refine (right_at _ w.heap.size A E n c m d ps es _ HR.out (((hA.below bw1 (Nat.le_refl _)).alloc (by omega) _).alloc (by simp; omega) _) (((hE.below bw1 (Nat.le_refl _)).alloc (by omega) _).alloc (by simp; omega) _) (by simp; omega) (by omega)).mono ?_
  rintro e w2 ⟨rfl, hb2⟩
  have bw2 : Below w.heap.size w w2 := ((bw1.alloc (by omega) _).alloc (by simp; omega) _).trans (hb2.mono (by simp; omega))
  have hL2 : Bk w2 w1.heap.size 40 #[.int .i64 lx, .int .i64 ly, .bool false] := (hb2.block _ (by simp; omega)).trans ((Bk.new w1 40 #[.int .i64 lx, .int .i64 ly, .bool false]).alloc _)
  have hH2 : Bk w2 (w1.heap.size + 1) 40 #[.int .i64 ux, .int .i64 uy, .bool false] := by
    refine (hb2.block _ (by simp)).trans ?_
    have h := Bk.new (w1.alloc (.cells #[.int .i64 lx, .int .i64 ly, .bool false] 40)) 40 #[.int .i64 ux, .int .i64 uy, .bool false]
    rwa [World.size_alloc] at h
  have hz2 : w1.heap.size + 1 < w2.heap.size := hH2.lt
  have k20 : w2.cell? ⟨w.heap.size, 0, none⟩ = some (.slice A n c) := cellB hb2 ((World.cell?_alloc_lt _ _ _ (by simp; omega)).trans ((World.cell?_alloc_lt _ _ _ (by simp; omega)).trans k0))
  have k21 : w2.cell? ⟨w.heap.size, 1, none⟩ = some (.slice E m d) := cellB hb2 ((World.cell?_alloc_lt _ _ _ (by simp; omega)).trans ((World.cell?_alloc_lt _ _ _ (by simp; omega)).trans k1))
  clear hb2 k0 k1
  go_wp2_with fail
  go_loopw [11] (fun i wr => ∃ k : Nat, k ≤ n ∧ i = .int .i64 k ∧ Bk wr w1.heap.size 40 #[.int .i64 lx, .int .i64 ly, .bool false] ∧ Bk wr (w1.heap.size + 1) 40 #[.int .i64 ux, .int .i64 uy, .bool false] ∧
      Bk wr w2.heap.size 43 #[.bool (anyTo ps pX lx k), .bool (anyTo ps pX ux k), .bool (anyTo ps pY ly k), .bool (anyTo ps pY uy k)] ∧ wr.cell? ⟨w.heap.size, 0, none⟩ = some (.slice A n c) ∧ wr.cell? ⟨w.heap.size, 1, none⟩ = some (.slice E m d) ∧ Below w.heap.size w wr) (fun i _ => n - (intOf i).toNat)
  case atStart => exact ⟨0, by omega, rfl, hL2.alloc _, hH2.alloc _, Bk.new _ _ _, (World.cell?_alloc_lt _ _ _ (by simp; omega)).trans k20, (World.cell?_alloc_lt _ _ _ (by simp; omega)).trans k21, bw2.alloc (by omega) _⟩
  case round =>
    obtain ⟨k, hk, rfl, hL, hH, hS, q0, q1, hbl⟩ := hrel
    have zs := hS.lt
    by_cases hlt : k < n
    · obtain ⟨b, o, px, py, pz, rfl, hbB, hp, h1, h2, h3⟩ := (hA.below hbl (Nat.le_refl _)).at3 hlt
      obtain ⟨t1, t2, t3, t4⟩ := (hcn.out (by omega)).1 _ (List.mem_of_getElem? hp.out)
      dsimp only at t1 t2 t3 t4
      have s1 := Lib.hid (anyTo_succ ps pX lx k _ hp.out)
      have s2 := Lib.hid (anyTo_succ ps pX ux k _ hp.out)
      have s3 := Lib.hid (anyTo_succ ps pY ly k _ hp.out)
      have s4 := Lib.hid (anyTo_succ ps pY uy k _ hp.out)
      generalize anyTo ps pX lx k = b1 at *
      generalize anyTo ps pX ux k = b2 at *
      generalize anyTo ps pY ly k = b3 at *
      generalize anyTo ps pY uy k = b4 at *
      have d1 : decide (px < lx) = false := by simp; omega
      have d2 : decide (ux < px) = false := by simp; omega
      have d3 : decide (py < ly) = false := by simp; omega
      have d4 : decide (uy < py) = false := by simp; omega
      have l0 : wr.cell? ⟨w1.heap.size, 0, none⟩ = some (.int .i64 lx) := hL.cell 0
      have l1 : wr.cell? ⟨w1.heap.size, 1, none⟩ = some (.int .i64 ly) := hL.cell 1
      have u0 : wr.cell? ⟨w1.heap.size + 1, 0, none⟩ = some (.int .i64 ux) := hH.cell 0
      have u1 : wr.cell? ⟨w1.heap.size + 1, 1, none⟩ = some (.int .i64 uy) := hH.cell 1
      have z1 : w.heap.size < wr.heap.size := by omega
      have z2 : w1.heap.size < wr.heap.size := by omega
      have z3 : w1.heap.size + 1 < wr.heap.size := by omega
      have z4 : ¬ (w2.heap.size = wr.heap.size) := by omega
      have z5 : ¬ (wr.heap.size = w2.heap.size) := by omega
      have z6 : ¬ (w1.heap.size = w2.heap.size) := by omega
      have z7 : ¬ (w1.heap.size + 1 = w2.heap.size) := by omega
      have z8 : ¬ (w.heap.size = w2.heap.size) := by omega
      have f0 : ∀ i, wr.frozen? ⟨w2.heap.size, i, none⟩ = false := hS.frozen
      have c0 : wr.cell? ⟨w2.heap.size, 0, none⟩ = some (.bool b1) := hS.cell 0
      have c1 : wr.cell? ⟨w2.heap.size, 1, none⟩ = some (.bool b2) := hS.cell 1
      have c2 : wr.cell? ⟨w2.heap.size, 2, none⟩ = some (.bool b3) := hS.cell 2
      have c3 : wr.cell? ⟨w2.heap.size, 3, none⟩ = some (.bool b4) := hS.cell 3
      clear Hb
      go_upto_region 11 with fail
      cases b1 <;> cases b2 <;> cases b3 <;> cases b4
      all_goals
        go_wp2_with fail
        go_roundw
        case rel =>
          refine ⟨k + 1, by omega, by go_num, ?_, ?_, ?_, ?_, ?_, ?_⟩
          · exact (((((hL.far z6 _).far z6 _).far z6 _).far z6 _).alloc _)
          · exact (((((hH.far z7 _).far z7 _).far z7 _).far z7 _).alloc _)
          · rw [s1.out, s2.out, s3.out, s4.out]
            exact ((((hS.set 0 _).set 1 _).set 2 _).set 3 _).alloc _
          · simp [go_sem, z1, q0]
          · simp [go_sem, z1, q1]
          · exact ((((hbl.setCell (by simp; omega) _).setCell (by simp; omega) _).setCell (by simp; omega) _).setCell (by simp; omega) _).alloc (by simp; omega) _
        case measure => simp [intOf]; omega
    · have hlm : Hid ((ps.map (mv x y)).length = ps.length) := List.length_map (mv x y)
      have hsum : Hid (0 < n → anyTo ps pX lx k = true ∧ anyTo ps pX ux k = true ∧ anyTo ps pY ly k = true ∧ anyTo ps pY uy k = true) := fun h0 => by
        obtain ⟨-, e1, e2, e3, e4⟩ := hcn.out h0
        have hle : ps.length ≤ k := by rw [Hlen.out]; omega
        exact ⟨anyTo_all ps pX lx k hle e1, anyTo_all ps pX ux k hle e2, anyTo_all ps pY ly k hle e3, anyTo_all ps pY uy k hle e4⟩
      by_cases h0 : n = 0
      · have hzf : z = false := by rw [← Hz.out, Hlen.out]; simp [h0]
        subst hzf
        have hd0 : Hid (decide (0 < (ps.map (mv x y)).length) = false) := by
          show _ = _
          rw [hlm.out, Hlen.out]
          simp [h0]
        obtain ⟨lo, hlo⟩ : ∃ lo, lowP (ps.map (mv x y)) = lo := ⟨_, rfl⟩
        obtain ⟨hi, hhi⟩ : ∃ hi, highP (ps.map (mv x y)) = hi := ⟨_, rfl⟩
        have Hlo' := Lib.hid hlo
        have Hhi' := Lib.hid hhi
        have hn0 : ((n : Int) == 0) = true := by simp [h0]
        clear hlo hhi h0
        go_wp2_with fail
        refine (moved_ok _ w.heap.size A E n c m d ps es x y (hA.below hbl (Nat.le_refl _)) (hE.below hbl (Nat.le_refl _)) hbl.size (by omega) (by omega)).mono ?_
        rintro e w3 ⟨A3, n3, c3, E3, m3, d3, rfl, -, hA3, hE3, hb3⟩
        have hn3 : n3 ≤ 200 := by rw [← hA3.len3, hlm.out, Hlen.out]; omega
        go_wp2_with fail
        refine (box_at _ w3.heap.size A3 E3 n3 c3 m3 d3 (ps.map (mv x y)) lo hi false Hlo'.out Hhi'.out hd0.out hA3 (Nat.le_refl _) (by omega)).mono ?_
        rintro e w4 ⟨rfl, hb4⟩
        have bw4 : Below w.heap.size w w4 := (hbl.trans (hb3.mono hbl.size)).trans (hb4.mono (by have := hbl.size; have := hb3.size; omega))
        have k40 := cellB hb4 (cellB hb3 q0)
        have z40 := World.block_lt_of_cell? _ _ k40
        dsimp only at z40
        clear hb3 hb4
        go_wp2_with fail
        refine (drawn_ok _).mono ?_
        rintro e w5 ⟨rfl, hb5⟩
        have bw5 : Below w.heap.size w w5 := ((bw4.alloc (by omega) _).alloc (by simp; omega) _).trans (hb5.mono (by simp; omega))
        have k50 : w5.cell? ⟨w.heap.size, 0, none⟩ = some (.slice A n c) := cellB hb5 ((World.cell?_alloc_lt _ _ _ (by simp; omega)).trans ((World.cell?_alloc_lt _ _ _ (by simp; omega)).trans k40))
        clear hb5
        go_wp2_with fail
        go_ret
        exact ⟨by simp, bw5⟩
      · have h0' : 0 < n := by omega
        have hzf : z = true := by rw [← Hz.out, Hlen.out]; simp; omega
        subst hzf
        have hd0 : Hid (decide (0 < (ps.map (mv x y)).length) = true) := by
          show _ = _
          rw [hlm.out, Hlen.out]
          simp; omega
        obtain ⟨a1, a2, a3, a4⟩ := hsum.out h0'
        rw [a1, a2, a3, a4] at hS
        obtain ⟨⟨e1, e2⟩, ⟨e3, e4⟩, ⟨e5, e6⟩, ⟨e7, e8⟩⟩ := Hb.out h0'
        have Hcm1 := Lib.hid (hcm.out h0').1
        have Hcm2 := Lib.hid (hcm.out h0').2
        clear h0 a1 a2 a3 a4
        go_wp2_with fail
        refine (moved_ok _ w.heap.size A E n c m d ps es x y (hA.below hbl (Nat.le_refl _)) (hE.below hbl (Nat.le_refl _)) hbl.size (by omega) (by omega)).mono ?_
        rintro e w3 ⟨A3, n3, c3, E3, m3, d3, rfl, -, hA3, hE3, hb3⟩
        have hn3 : n3 ≤ 200 := by rw [← hA3.len3, hlm.out, Hlen.out]; omega
        go_wp2_with fail
        refine (box_at _ w3.heap.size A3 E3 n3 c3 m3 d3 (ps.map (mv x y)) (lx + x, ly + y) (ux + x, uy + y) true Hcm1.out Hcm2.out hd0.out hA3 (Nat.le_refl _) (by omega)).mono ?_
        rintro e w4 ⟨rfl, hb4⟩
        have bw4 : Below w.heap.size w w4 := (hbl.trans (hb3.mono hbl.size)).trans (hb4.mono (by have := hbl.size; have := hb3.size; omega))
        have hS4 : Bk w4 w2.heap.size 43 #[.bool true, .bool true, .bool true, .bool true] := (hb4.block _ (by have := hb3.size; omega)).trans ((hb3.block _ zs).trans hS)
        have hL4 : Bk w4 w1.heap.size 40 #[.int .i64 lx, .int .i64 ly, .bool false] := (hb4.block _ (by have := hb3.size; have := hL.lt; omega)).trans ((hb3.block _ hL.lt).trans hL)
        have hH4 : Bk w4 (w1.heap.size + 1) 40 #[.int .i64 ux, .int .i64 uy, .bool false] := (hb4.block _ (by have := hb3.size; have := hH.lt; omega)).trans ((hb3.block _ hH.lt).trans hH)
        have z41 := hS4.lt
        clear hb3 hb4
        go_wp2_with fail
        refine (drawn_ok _).mono ?_
        rintro e w5 ⟨rfl, hb5⟩
        have bw5 : Below w.heap.size w w5 := ((bw4.alloc (by omega) _).alloc (by simp; omega) _).trans (hb5.mono (by simp; omega))
        have hS5 : Bk w5 w2.heap.size 43 #[.bool true, .bool true, .bool true, .bool true] := (hb5.block _ (by simp; omega)).trans ((hS4.alloc _).alloc _)
        have hL5 : Bk w5 w1.heap.size 40 #[.int .i64 lx, .int .i64 ly, .bool false] := (hb5.block _ (by have := hL4.lt; simp; omega)).trans ((hL4.alloc _).alloc _)
        have hH5 : Bk w5 (w1.heap.size + 1) 40 #[.int .i64 ux, .int .i64 uy, .bool false] := (hb5.block _ (by have := hH4.lt; simp; omega)).trans ((hH4.alloc _).alloc _)
        have hA5 : Bk w5 w4.heap.size 40 #[.int .i64 (lx + x), .int .i64 (ly + y), .bool false] := (hb5.block _ (by simp; omega)).trans ((Bk.new _ _ _).alloc _)
        have hB5 : Bk w5 (w4.heap.size + 1) 40 #[.int .i64 (ux + x), .int .i64 (uy + y), .bool false] := by
          refine (hb5.block _ (by simp)).trans ?_
          have h := Bk.new (w4.alloc (.cells #[.int .i64 (lx + x), .int .i64 (ly + y), .bool false] 40)) 40 #[.int .i64 (ux + x), .int .i64 (uy + y), .bool false]
          rwa [World.size_alloc] at h
        clear hb5
        have l0 : w5.cell? ⟨w1.heap.size, 0, none⟩ = some (.int .i64 lx) := hL5.cell 0
        have l1 : w5.cell? ⟨w1.heap.size, 1, none⟩ = some (.int .i64 ly) := hL5.cell 1
        have u0 : w5.cell? ⟨w1.heap.size + 1, 0, none⟩ = some (.int .i64 ux) := hH5.cell 0
        have u1 : w5.cell? ⟨w1.heap.size + 1, 1, none⟩ = some (.int .i64 uy) := hH5.cell 1
        have v0 : w5.cell? ⟨w4.heap.size, 0, none⟩ = some (.int .i64 (lx + x)) := hA5.cell 0
        have v1 : w5.cell? ⟨w4.heap.size, 1, none⟩ = some (.int .i64 (ly + y)) := hA5.cell 1
        have v2 : w5.cell? ⟨w4.heap.size, 2, none⟩ = some (.bool false) := hA5.cell 2
        have t0 : w5.cell? ⟨w4.heap.size + 1, 0, none⟩ = some (.int .i64 (ux + x)) := hB5.cell 0
        have t1 : w5.cell? ⟨w4.heap.size + 1, 1, none⟩ = some (.int .i64 (uy + y)) := hB5.cell 1
        have t2 : w5.cell? ⟨w4.heap.size + 1, 2, none⟩ = some (.bool false) := hB5.cell 2
        have s0 : w5.cell? ⟨w2.heap.size, 0, none⟩ = some (.bool true) := hS5.cell 0
        have s1 : w5.cell? ⟨w2.heap.size, 1, none⟩ = some (.bool true) := hS5.cell 1
        have s2 : w5.cell? ⟨w2.heap.size, 2, none⟩ = some (.bool true) := hS5.cell 2
        have s3 : w5.cell? ⟨w2.heap.size, 3, none⟩ = some (.bool true) := hS5.cell 3
        have eq40 := run_eql40
        have eq43 := run_eql43
        have eg4 := eg40
        have eg5 := eg43
        go_wp2_with fail
        go_ret
        exact ⟨by simp, bw5⟩

theorem boxes_walk (w : World) (A E : Option Addr) (n c m d : Nat) (ps : List P3) (es : List Int) (x y : Int) (hA : Rd w w.heap.size A n 3 (c3s ps)) (hE : Rd w w.heap.size E m 1 (cIs es)) (hn : n ≤ 9223372036854775807) :
    Calls Try.prog 6 #[.agg #[.slice A n c, .slice E m d], .int .i64 x, .int .i64 y] w fun e w' => e = .returned (.bool true) ∧ Below w.heap.size w w' := by
  by_cases h : rightB ps es = true ∧ x ≤ 100000 ∧ -100000 ≤ x ∧ y ≤ 100000 ∧ -100000 ≤ y
  · exact boxes_yes w A E n c m d ps es x y hA hE h.1 h.2.1 h.2.2.1 h.2.2.2.1 h.2.2.2.2
  · exact boxes_no w A E n c m d ps es x y hA hE hn h
end Go.Proofs.Ytfpdbdbgemolgaa
