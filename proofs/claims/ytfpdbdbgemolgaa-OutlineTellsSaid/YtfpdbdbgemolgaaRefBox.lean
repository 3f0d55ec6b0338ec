/- The contract of fleuronref03.Box. -/
import Derived.Test.YtfpdbdbgemolgaaTurns
import Derived.Test.YtfpdbdbgemolgaaPureBox
namespace Go.Proofs.Ytfpdbdbgemolgaa
open Go.RowKit

theorem lowP_one (ps : List P3) (x y : Int) (z : Bool) (h : ps[0]? = some (x, y, z)) : lowP (ps.take 1) = (x, y) ∧ highP (ps.take 1) = (x, y) := by
  cases ps with
  | nil => simp at h
  | cons p ps =>
    simp at h
    subst h
    simp [lowP, highP, mnF, mxF, mnI, mxI, pX, pY]
theorem lowP_succ (ps : List P3) (k : Nat) (hk : 0 < k) (x y : Int) (z : Bool) (h : ps[k]? = some (x, y, z)) :
    lowP (ps.take (k + 1)) = (mnI (lowP (ps.take k)).1 x, mnI (lowP (ps.take k)).2 y) ∧ highP (ps.take (k + 1)) = (mxI (highP (ps.take k)).1 x, mxI (highP (ps.take k)).2 y) := by
  cases ps with
  | nil => simp at h
  | cons p ps =>
    obtain ⟨k, rfl⟩ : ∃ j, k = j + 1 := ⟨k - 1, by omega⟩
    have a1 := mnF_succ pX p.1 (p :: ps) (k + 1) _ h
    have a2 := mnF_succ pY p.2.1 (p :: ps) (k + 1) _ h
    have a3 := mxF_succ pX p.1 (p :: ps) (k + 1) _ h
    have a4 := mxF_succ pY p.2.1 (p :: ps) (k + 1) _ h
    exact ⟨by
      show (mnF pX p.1 ((p :: ps).take (k + 1 + 1)), mnF pY p.2.1 ((p :: ps).take (k + 1 + 1))) = _
      rw [a1, a2]
      rfl, by
      show (mxF pX p.1 ((p :: ps).take (k + 1 + 1)), mxF pY p.2.1 ((p :: ps).take (k + 1 + 1))) = _
      rw [a3, a4]
      rfl⟩

set_option maxRecDepth 100000 in
set_option maxHeartbeats 8000000 in
theorem refBox_ok (w : World) (B : Nat) (A E : Option Addr) (n c m d : Nat) (ps : List P3) (hA : Rd w B A n 3 (c3s ps)) (hB : B ≤ w.heap.size) (hn : n ≤ 9223372036854775807) :
    Calls Try.prog 29 #[.agg #[.slice A n c, .slice E m d]] w fun e w' => e = .returned (.tuple #[.agg #[.int .i64 (lowP ps).1, .int .i64 (lowP ps).2, .bool false], .agg #[.int .i64 (highP ps).1, .int .i64 (highP ps).2, .bool false], .bool (decide (0 < ps.length))]) ∧ Below w.heap.size w w' := by
  have hlen := Lib.hid hA.len3
  go_enter Try.func29, Try.ntmps29
  go_wp2_with fail
  obtain ⟨W0, hW0⟩ : ∃ W0, ((((w.alloc (.cells #[.slice A n c, .slice E m d] 25)).alloc (.cells #[.int .i64 0, .int .i64 0, .bool false] 40)).alloc (.cells #[.int .i64 0, .int .i64 0, .bool false] 40)).alloc (.cells #[.int .i64 0, .int .i64 0, .bool false] 40)).alloc (.cells #[.int .i64 0, .int .i64 0, .bool false] 40) = W0 := ⟨_, rfl⟩
  have nb : ∀ (X : World) (h : Nat) (cs : Array Value), X.heap.size = h → Bk (X.alloc (.cells cs 40)) h 40 cs := fun X h cs e => by subst e; exact Bk.new _ _ _
  have hO0 : Bk W0 w.heap.size 25 #[.slice A n c, .slice E m d] := by rw [← hW0]; exact ((((Bk.new _ _ _).alloc _).alloc _).alloc _).alloc _
  have hR0 : Bk W0 (w.heap.size + 1) 40 #[.int .i64 0, .int .i64 0, .bool false] := by rw [← hW0]; exact (((nb _ _ _ (by simp)).alloc _).alloc _).alloc _
  have hS0 : Bk W0 (w.heap.size + 1 + 1) 40 #[.int .i64 0, .int .i64 0, .bool false] := by rw [← hW0]; exact ((nb _ _ _ (by simp)).alloc _).alloc _
  have hL0 : Bk W0 (w.heap.size + 1 + 1 + 1) 40 #[.int .i64 0, .int .i64 0, .bool false] := by rw [← hW0]; exact (nb _ _ _ (by simp)).alloc _
  have hH0 : Bk W0 (w.heap.size + 1 + 1 + 1 + 1) 40 #[.int .i64 0, .int .i64 0, .bool false] := by rw [← hW0]; exact nb _ _ _ (by simp)
  have hb0 : Below w.heap.size w W0 := by rw [← hW0]; exact (((((Below.refl _ _).alloc (Nat.le_refl _) _).alloc (by simp) _).alloc (by simp; omega) _).alloc (by simp; omega) _).alloc (by simp; omega) _
  rw [hW0]
  clear hW0 nb
  go_loopw [7] (fun i wr => ∃ k : Nat, k ≤ n ∧ i = .int .i64 k ∧ Bk wr w.heap.size 25 #[.slice A n c, .slice E m d] ∧ Bk wr (w.heap.size + 1) 40 #[.int .i64 0, .int .i64 0, .bool false] ∧ Bk wr (w.heap.size + 1 + 1) 40 #[.int .i64 0, .int .i64 0, .bool false] ∧
      Bk wr (w.heap.size + 1 + 1 + 1) 40 #[.int .i64 (lowP (ps.take k)).1, .int .i64 (lowP (ps.take k)).2, .bool false] ∧ Bk wr (w.heap.size + 1 + 1 + 1 + 1) 40 #[.int .i64 (highP (ps.take k)).1, .int .i64 (highP (ps.take k)).2, .bool false] ∧ Below w.heap.size w wr) (fun i _ => n - (intOf i).toNat)
  case atStart => exact ⟨0, by omega, rfl, hO0, hR0, hS0, hL0, hH0, hb0⟩
  case round =>
    obtain ⟨k, hk, rfl, hO, hR, hS, hL, hH, hbl⟩ := hrel
    have q0 : wr.cell? ⟨w.heap.size, 0, none⟩ = some (.slice A n c) := hO.cell 0
    have z4 := hH.lt
    have z1 : w.heap.size < wr.heap.size := by omega
    have z2 : w.heap.size + 1 < wr.heap.size := by omega
    have z3 : w.heap.size + 1 + 1 < wr.heap.size := by omega
    have z5 : w.heap.size + 1 + 1 + 1 < wr.heap.size := by omega
    have l2 : wr.cell? ⟨w.heap.size + 1 + 1 + 1, 2, none⟩ = some (.bool false) := hL.cell 2
    have u2 : wr.cell? ⟨w.heap.size + 1 + 1 + 1 + 1, 2, none⟩ = some (.bool false) := hH.cell 2
    have lf : ∀ i, wr.frozen? ⟨w.heap.size + 1 + 1 + 1, i, none⟩ = false := hL.frozen
    have uf : ∀ i, wr.frozen? ⟨w.heap.size + 1 + 1 + 1 + 1, i, none⟩ = false := hH.frozen
    by_cases hlt : k < n
    · obtain ⟨b, o, px, py, pz, rfl, hbB, hp, t1, t2, t3⟩ := (hA.below hbl hB).at3 hlt
      have zb : b < wr.heap.size := by omega
      have y1 : ¬ (w.heap.size + 1 + 1 + 1 = wr.heap.size) := by omega
      have y2 : ¬ (w.heap.size + 1 + 1 + 1 + 1 = wr.heap.size) := by omega
      have y3 : ¬ (wr.heap.size = w.heap.size + 1 + 1 + 1) := by omega
      have y4 : ¬ (wr.heap.size = w.heap.size + 1 + 1 + 1 + 1) := by omega
      rcases Nat.eq_zero_or_pos k with hk0 | hk0
      · subst hk0
        have hlo := Lib.hid (lowP_one ps px py pz hp.out)
        have l0 : wr.cell? ⟨w.heap.size + 1 + 1 + 1, 0, none⟩ = some (.int .i64 0) := hL.cell 0
        have l1 : wr.cell? ⟨w.heap.size + 1 + 1 + 1, 1, none⟩ = some (.int .i64 0) := hL.cell 1
        have u0 : wr.cell? ⟨w.heap.size + 1 + 1 + 1 + 1, 0, none⟩ = some (.int .i64 0) := hH.cell 0
        have u1 : wr.cell? ⟨w.heap.size + 1 + 1 + 1 + 1, 1, none⟩ = some (.int .i64 0) := hH.cell 1
        simp only [Nat.zero_mul, Nat.add_zero] at t1 t2 t3
        go_wp2_with fail
        go_roundw
        case rel =>
          refine ⟨1, by omega, by go_num, ?_, ?_, ?_, ?_, ?_, ?_⟩
          · exact ((((hO.far (by simp; omega) _).far (by simp; omega) _).far (by simp; omega) _).far (by simp; omega) _).alloc _
          · exact ((((hR.far (by simp) _).far (by simp) _).far (by simp) _).far (by simp) _).alloc _
          · exact ((((hS.far (by simp) _).far (by simp) _).far (by simp) _).far (by simp) _).alloc _
          · rw [hlo.out.1]
            exact ((((hL.set 0 _).set 1 _).far (by simp) _).far (by simp) _).alloc _
          · rw [hlo.out.2]
            exact ((((hH.far (by simp) _).far (by simp) _).set 0 _).set 1 _).alloc _
          · exact ((((hbl.setCell (by simp; omega) _).setCell (by simp; omega) _).setCell (by simp; omega) _).setCell (by simp; omega) _).alloc (by simp; omega) _
        case measure => simp [intOf]; omega
      · have hlo := Lib.hid (lowP_succ ps k hk0 px py pz hp.out)
        have zk : ((k : Int) == 0) = false := by simp; omega
        generalize (lowP (ps.take k)).1 = lx at *
        generalize (lowP (ps.take k)).2 = ly at *
        generalize (highP (ps.take k)).1 = ux at *
        generalize (highP (ps.take k)).2 = uy at *
        have l0 : wr.cell? ⟨w.heap.size + 1 + 1 + 1, 0, none⟩ = some (.int .i64 lx) := hL.cell 0
        have l1 : wr.cell? ⟨w.heap.size + 1 + 1 + 1, 1, none⟩ = some (.int .i64 ly) := hL.cell 1
        have u0 : wr.cell? ⟨w.heap.size + 1 + 1 + 1 + 1, 0, none⟩ = some (.int .i64 ux) := hH.cell 0
        have u1 : wr.cell? ⟨w.heap.size + 1 + 1 + 1 + 1, 1, none⟩ = some (.int .i64 uy) := hH.cell 1
        clear hp hO0 hR0 hS0 hL0 hH0 hb0
        by_cases g1 : px < lx
        · by_cases g2 : py < ly
          · by_cases g3 : ux < px
            · by_cases g4 : uy < py
              · have e1 : Hid (mnI lx px = px) := by show _ = _; unfold mnI; omega
                have e2 : Hid (mnI ly py = py) := by show _ = _; unfold mnI; omega
                have e3 : Hid (mxI ux px = px) := by show _ = _; unfold mxI; omega
                have e4 : Hid (mxI uy py = py) := by show _ = _; unfold mxI; omega
                have d1 : decide (px < lx) = true := by simp; omega
                have d2 : decide (py < ly) = true := by simp; omega
                have d3 : decide (ux < px) = true := by simp; omega
                have d4 : decide (uy < py) = true := by simp; omega
                go_wp2_with fail
                go_roundw
                case rel =>
                  refine ⟨k + 1, by omega, by go_num, ?_, ?_, ?_, ?_, ?_, ?_⟩
                  · exact ((((hO.far (by simp; omega) _).far (by simp; omega) _).far (by simp; omega) _).far (by simp; omega) _).alloc _
                  · exact ((((hR.far (by simp) _).far (by simp) _).far (by simp) _).far (by simp) _).alloc _
                  · exact ((((hS.far (by simp) _).far (by simp) _).far (by simp) _).far (by simp) _).alloc _
                  · rw [hlo.out.1, e1.out, e2.out]
                    exact ((((hL.set 0 _).set 1 _).far (by simp) _).far (by simp) _).alloc _
                  · rw [hlo.out.2, e3.out, e4.out]
                    exact ((((hH.far (by simp) _).far (by simp) _).set 0 _).set 1 _).alloc _
                  · exact ((((hbl.setCell (by simp; omega) _).setCell (by simp; omega) _).setCell (by simp; omega) _).setCell (by simp; omega) _).alloc (by simp; omega) _
                case measure => simp [intOf]; omega
              · have e1 : Hid (mnI lx px = px) := by show _ = _; unfold mnI; omega
                have e2 : Hid (mnI ly py = py) := by show _ = _; unfold mnI; omega
                have e3 : Hid (mxI ux px = px) := by show _ = _; unfold mxI; omega
                have e4 : Hid (mxI uy py = uy) := by show _ = _; unfold mxI; omega
                have d1 : decide (px < lx) = true := by simp; omega
                have d2 : decide (py < ly) = true := by simp; omega
                have d3 : decide (ux < px) = true := by simp; omega
                have d4 : decide (uy < py) = false := by simp; omega
                go_wp2_with fail
                go_roundw
                case rel =>
                  refine ⟨k + 1, by omega, by go_num, ?_, ?_, ?_, ?_, ?_, ?_⟩
                  · exact (((hO.far (by simp; omega) _).far (by simp; omega) _).far (by simp; omega) _).alloc _
                  · exact (((hR.far (by simp) _).far (by simp) _).far (by simp) _).alloc _
                  · exact (((hS.far (by simp) _).far (by simp) _).far (by simp) _).alloc _
                  · rw [hlo.out.1, e1.out, e2.out]
                    exact (((hL.set 0 _).set 1 _).far (by simp) _).alloc _
                  · rw [hlo.out.2, e3.out, e4.out]
                    exact (((hH.far (by simp) _).far (by simp) _).set 0 _).alloc _
                  · exact (((hbl.setCell (by simp; omega) _).setCell (by simp; omega) _).setCell (by simp; omega) _).alloc (by simp; omega) _
                case measure => simp [intOf]; omega
            · by_cases g4 : uy < py
              · have e1 : Hid (mnI lx px = px) := by show _ = _; unfold mnI; omega
                have e2 : Hid (mnI ly py = py) := by show _ = _; unfold mnI; omega
                have e3 : Hid (mxI ux px = ux) := by show _ = _; unfold mxI; omega
                have e4 : Hid (mxI uy py = py) := by show _ = _; unfold mxI; omega
                have d1 : decide (px < lx) = true := by simp; omega
                have d2 : decide (py < ly) = true := by simp; omega
                have d3 : decide (ux < px) = false := by simp; omega
                have d4 : decide (uy < py) = true := by simp; omega
                go_wp2_with fail
                go_roundw
                case rel =>
                  refine ⟨k + 1, by omega, by go_num, ?_, ?_, ?_, ?_, ?_, ?_⟩
                  · exact (((hO.far (by simp; omega) _).far (by simp; omega) _).far (by simp; omega) _).alloc _
                  · exact (((hR.far (by simp) _).far (by simp) _).far (by simp) _).alloc _
                  · exact (((hS.far (by simp) _).far (by simp) _).far (by simp) _).alloc _
                  · rw [hlo.out.1, e1.out, e2.out]
                    exact (((hL.set 0 _).set 1 _).far (by simp) _).alloc _
                  · rw [hlo.out.2, e3.out, e4.out]
                    exact (((hH.far (by simp) _).far (by simp) _).set 1 _).alloc _
                  · exact (((hbl.setCell (by simp; omega) _).setCell (by simp; omega) _).setCell (by simp; omega) _).alloc (by simp; omega) _
                case measure => simp [intOf]; omega
              · have e1 : Hid (mnI lx px = px) := by show _ = _; unfold mnI; omega
                have e2 : Hid (mnI ly py = py) := by show _ = _; unfold mnI; omega
                have e3 : Hid (mxI ux px = ux) := by show _ = _; unfold mxI; omega
                have e4 : Hid (mxI uy py = uy) := by show _ = _; unfold mxI; omega
                have d1 : decide (px < lx) = true := by simp; omega
                have d2 : decide (py < ly) = true := by simp; omega
                have d3 : decide (ux < px) = false := by simp; omega
                have d4 : decide (uy < py) = false := by simp; omega
                go_wp2_with fail
                go_roundw
                case rel =>
                  refine ⟨k + 1, by omega, by go_num, ?_, ?_, ?_, ?_, ?_, ?_⟩
                  · exact ((hO.far (by simp; omega) _).far (by simp; omega) _).alloc _
                  · exact ((hR.far (by simp) _).far (by simp) _).alloc _
                  · exact ((hS.far (by simp) _).far (by simp) _).alloc _
                  · rw [hlo.out.1, e1.out, e2.out]
                    exact ((hL.set 0 _).set 1 _).alloc _
                  · rw [hlo.out.2, e3.out, e4.out]
                    exact ((hH.far (by simp) _).far (by simp) _).alloc _
                  · exact ((hbl.setCell (by simp; omega) _).setCell (by simp; omega) _).alloc (by simp; omega) _
                case measure => simp [intOf]; omega
          · by_cases g3 : ux < px
            · by_cases g4 : uy < py
              · have e1 : Hid (mnI lx px = px) := by show _ = _; unfold mnI; omega
                have e2 : Hid (mnI ly py = ly) := by show _ = _; unfold mnI; omega
                have e3 : Hid (mxI ux px = px) := by show _ = _; unfold mxI; omega
                have e4 : Hid (mxI uy py = py) := by show _ = _; unfold mxI; omega
                have d1 : decide (px < lx) = true := by simp; omega
                have d2 : decide (py < ly) = false := by simp; omega
                have d3 : decide (ux < px) = true := by simp; omega
                have d4 : decide (uy < py) = true := by simp; omega
                go_wp2_with fail
                go_roundw
                case rel =>
                  refine ⟨k + 1, by omega, by go_num, ?_, ?_, ?_, ?_, ?_, ?_⟩
                  · exact (((hO.far (by simp; omega) _).far (by simp; omega) _).far (by simp; omega) _).alloc _
                  · exact (((hR.far (by simp) _).far (by simp) _).far (by simp) _).alloc _
                  · exact (((hS.far (by simp) _).far (by simp) _).far (by simp) _).alloc _
                  · rw [hlo.out.1, e1.out, e2.out]
                    exact (((hL.set 0 _).far (by simp) _).far (by simp) _).alloc _
                  · rw [hlo.out.2, e3.out, e4.out]
                    exact (((hH.far (by simp) _).set 0 _).set 1 _).alloc _
                  · exact (((hbl.setCell (by simp; omega) _).setCell (by simp; omega) _).setCell (by simp; omega) _).alloc (by simp; omega) _
                case measure => simp [intOf]; omega
              · have e1 : Hid (mnI lx px = px) := by show _ = _; unfold mnI; omega
                have e2 : Hid (mnI ly py = ly) := by show _ = _; unfold mnI; omega
                have e3 : Hid (mxI ux px = px) := by show _ = _; unfold mxI; omega
                have e4 : Hid (mxI uy py = uy) := by show _ = _; unfold mxI; omega
                have d1 : decide (px < lx) = true := by simp; omega
                have d2 : decide (py < ly) = false := by simp; omega
                have d3 : decide (ux < px) = true := by simp; omega
                have d4 : decide (uy < py) = false := by simp; omega
                go_wp2_with fail
                go_roundw
                case rel =>
                  refine ⟨k + 1, by omega, by go_num, ?_, ?_, ?_, ?_, ?_, ?_⟩
                  · exact ((hO.far (by simp; omega) _).far (by simp; omega) _).alloc _
                  · exact ((hR.far (by simp) _).far (by simp) _).alloc _
                  · exact ((hS.far (by simp) _).far (by simp) _).alloc _
                  · rw [hlo.out.1, e1.out, e2.out]
                    exact ((hL.set 0 _).far (by simp) _).alloc _
                  · rw [hlo.out.2, e3.out, e4.out]
                    exact ((hH.far (by simp) _).set 0 _).alloc _
                  · exact ((hbl.setCell (by simp; omega) _).setCell (by simp; omega) _).alloc (by simp; omega) _
                case measure => simp [intOf]; omega
            · by_cases g4 : uy < py
              · have e1 : Hid (mnI lx px = px) := by show _ = _; unfold mnI; omega
                have e2 : Hid (mnI ly py = ly) := by show _ = _; unfold mnI; omega
                have e3 : Hid (mxI ux px = ux) := by show _ = _; unfold mxI; omega
                have e4 : Hid (mxI uy py = py) := by show _ = _; unfold mxI; omega
                have d1 : decide (px < lx) = true := by simp; omega
                have d2 : decide (py < ly) = false := by simp; omega
                have d3 : decide (ux < px) = false := by simp; omega
                have d4 : decide (uy < py) = true := by simp; omega
                go_wp2_with fail
                go_roundw
                case rel =>
                  refine ⟨k + 1, by omega, by go_num, ?_, ?_, ?_, ?_, ?_, ?_⟩
                  · exact ((hO.far (by simp; omega) _).far (by simp; omega) _).alloc _
                  · exact ((hR.far (by simp) _).far (by simp) _).alloc _
                  · exact ((hS.far (by simp) _).far (by simp) _).alloc _
                  · rw [hlo.out.1, e1.out, e2.out]
                    exact ((hL.set 0 _).far (by simp) _).alloc _
                  · rw [hlo.out.2, e3.out, e4.out]
                    exact ((hH.far (by simp) _).set 1 _).alloc _
                  · exact ((hbl.setCell (by simp; omega) _).setCell (by simp; omega) _).alloc (by simp; omega) _
                case measure => simp [intOf]; omega
              · have e1 : Hid (mnI lx px = px) := by show _ = _; unfold mnI; omega
                have e2 : Hid (mnI ly py = ly) := by show _ = _; unfold mnI; omega
                have e3 : Hid (mxI ux px = ux) := by show _ = _; unfold mxI; omega
                have e4 : Hid (mxI uy py = uy) := by show _ = _; unfold mxI; omega
                have d1 : decide (px < lx) = true := by simp; omega
                have d2 : decide (py < ly) = false := by simp; omega
                have d3 : decide (ux < px) = false := by simp; omega
                have d4 : decide (uy < py) = false := by simp; omega
                go_wp2_with fail
                go_roundw
                case rel =>
                  refine ⟨k + 1, by omega, by go_num, ?_, ?_, ?_, ?_, ?_, ?_⟩
                  · exact (hO.far (by simp; omega) _).alloc _
                  · exact (hR.far (by simp) _).alloc _
                  · exact (hS.far (by simp) _).alloc _
                  · rw [hlo.out.1, e1.out, e2.out]
                    exact (hL.set 0 _).alloc _
                  · rw [hlo.out.2, e3.out, e4.out]
                    exact (hH.far (by simp) _).alloc _
                  · exact (hbl.setCell (by simp; omega) _).alloc (by simp; omega) _
                case measure => simp [intOf]; omega
        · by_cases g2 : py < ly
          · by_cases g3 : ux < px
            · by_cases g4 : uy < py
              · have e1 : Hid (mnI lx px = lx) := by show _ = _; unfold mnI; omega
                have e2 : Hid (mnI ly py = py) := by show _ = _; unfold mnI; omega
                have e3 : Hid (mxI ux px = px) := by show _ = _; unfold mxI; omega
                have e4 : Hid (mxI uy py = py) := by show _ = _; unfold mxI; omega
                have d1 : decide (px < lx) = false := by simp; omega
                have d2 : decide (py < ly) = true := by simp; omega
                have d3 : decide (ux < px) = true := by simp; omega
                have d4 : decide (uy < py) = true := by simp; omega
                go_wp2_with fail
                go_roundw
                case rel =>
                  refine ⟨k + 1, by omega, by go_num, ?_, ?_, ?_, ?_, ?_, ?_⟩
                  · exact (((hO.far (by simp; omega) _).far (by simp; omega) _).far (by simp; omega) _).alloc _
                  · exact (((hR.far (by simp) _).far (by simp) _).far (by simp) _).alloc _
                  · exact (((hS.far (by simp) _).far (by simp) _).far (by simp) _).alloc _
                  · rw [hlo.out.1, e1.out, e2.out]
                    exact (((hL.set 1 _).far (by simp) _).far (by simp) _).alloc _
                  · rw [hlo.out.2, e3.out, e4.out]
                    exact (((hH.far (by simp) _).set 0 _).set 1 _).alloc _
                  · exact (((hbl.setCell (by simp; omega) _).setCell (by simp; omega) _).setCell (by simp; omega) _).alloc (by simp; omega) _
                case measure => simp [intOf]; omega
              · have e1 : Hid (mnI lx px = lx) := by show _ = _; unfold mnI; omega
                have e2 : Hid (mnI ly py = py) := by show _ = _; unfold mnI; omega
                have e3 : Hid (mxI ux px = px) := by show _ = _; unfold mxI; omega
                have e4 : Hid (mxI uy py = uy) := by show _ = _; unfold mxI; omega
                have d1 : decide (px < lx) = false := by simp; omega
                have d2 : decide (py < ly) = true := by simp; omega
                have d3 : decide (ux < px) = true := by simp; omega
                have d4 : decide (uy < py) = false := by simp; omega
                go_wp2_with fail
                go_roundw
                case rel =>
                  refine ⟨k + 1, by omega, by go_num, ?_, ?_, ?_, ?_, ?_, ?_⟩
                  · exact ((hO.far (by simp; omega) _).far (by simp; omega) _).alloc _
                  · exact ((hR.far (by simp) _).far (by simp) _).alloc _
                  · exact ((hS.far (by simp) _).far (by simp) _).alloc _
                  · rw [hlo.out.1, e1.out, e2.out]
                    exact ((hL.set 1 _).far (by simp) _).alloc _
                  · rw [hlo.out.2, e3.out, e4.out]
                    exact ((hH.far (by simp) _).set 0 _).alloc _
                  · exact ((hbl.setCell (by simp; omega) _).setCell (by simp; omega) _).alloc (by simp; omega) _
                case measure => simp [intOf]; omega
            · by_cases g4 : uy < py
              · have e1 : Hid (mnI lx px = lx) := by show _ = _; unfold mnI; omega
                have e2 : Hid (mnI ly py = py) := by show _ = _; unfold mnI; omega
                have e3 : Hid (mxI ux px = ux) := by show _ = _; unfold mxI; omega
                have e4 : Hid (mxI uy py = py) := by show _ = _; unfold mxI; omega
                have d1 : decide (px < lx) = false := by simp; omega
                have d2 : decide (py < ly) = true := by simp; omega
                have d3 : decide (ux < px) = false := by simp; omega
                have d4 : decide (uy < py) = true := by simp; omega
                go_wp2_with fail
                go_roundw
                case rel =>
                  refine ⟨k + 1, by omega, by go_num, ?_, ?_, ?_, ?_, ?_, ?_⟩
                  · exact ((hO.far (by simp; omega) _).far (by simp; omega) _).alloc _
                  · exact ((hR.far (by simp) _).far (by simp) _).alloc _
                  · exact ((hS.far (by simp) _).far (by simp) _).alloc _
                  · rw [hlo.out.1, e1.out, e2.out]
                    exact ((hL.set 1 _).far (by simp) _).alloc _
                  · rw [hlo.out.2, e3.out, e4.out]
                    exact ((hH.far (by simp) _).set 1 _).alloc _
                  · exact ((hbl.setCell (by simp; omega) _).setCell (by simp; omega) _).alloc (by simp; omega) _
                case measure => simp [intOf]; omega
              · have e1 : Hid (mnI lx px = lx) := by show _ = _; unfold mnI; omega
                have e2 : Hid (mnI ly py = py) := by show _ = _; unfold mnI; omega
                have e3 : Hid (mxI ux px = ux) := by show _ = _; unfold mxI; omega
                have e4 : Hid (mxI uy py = uy) := by show _ = _; unfold mxI; omega
                have d1 : decide (px < lx) = false := by simp; omega
                have d2 : decide (py < ly) = true := by simp; omega
                have d3 : decide (ux < px) = false := by simp; omega
                have d4 : decide (uy < py) = false := by simp; omega
                go_wp2_with fail
                go_roundw
                case rel =>
                  refine ⟨k + 1, by omega, by go_num, ?_, ?_, ?_, ?_, ?_, ?_⟩
                  · exact (hO.far (by simp; omega) _).alloc _
                  · exact (hR.far (by simp) _).alloc _
                  · exact (hS.far (by simp) _).alloc _
                  · rw [hlo.out.1, e1.out, e2.out]
                    exact (hL.set 1 _).alloc _
                  · rw [hlo.out.2, e3.out, e4.out]
                    exact (hH.far (by simp) _).alloc _
                  · exact (hbl.setCell (by simp; omega) _).alloc (by simp; omega) _
                case measure => simp [intOf]; omega
          · by_cases g3 : ux < px
            · by_cases g4 : uy < py
              · have e1 : Hid (mnI lx px = lx) := by show _ = _; unfold mnI; omega
                have e2 : Hid (mnI ly py = ly) := by show _ = _; unfold mnI; omega
                have e3 : Hid (mxI ux px = px) := by show _ = _; unfold mxI; omega
                have e4 : Hid (mxI uy py = py) := by show _ = _; unfold mxI; omega
                have d1 : decide (px < lx) = false := by simp; omega
                have d2 : decide (py < ly) = false := by simp; omega
                have d3 : decide (ux < px) = true := by simp; omega
                have d4 : decide (uy < py) = true := by simp; omega
                go_wp2_with fail
                go_roundw
                case rel =>
                  refine ⟨k + 1, by omega, by go_num, ?_, ?_, ?_, ?_, ?_, ?_⟩
                  · exact ((hO.far (by simp; omega) _).far (by simp; omega) _).alloc _
                  · exact ((hR.far (by simp) _).far (by simp) _).alloc _
                  · exact ((hS.far (by simp) _).far (by simp) _).alloc _
                  · rw [hlo.out.1, e1.out, e2.out]
                    exact ((hL.far (by simp) _).far (by simp) _).alloc _
                  · rw [hlo.out.2, e3.out, e4.out]
                    exact ((hH.set 0 _).set 1 _).alloc _
                  · exact ((hbl.setCell (by simp; omega) _).setCell (by simp; omega) _).alloc (by simp; omega) _
                case measure => simp [intOf]; omega
              · have e1 : Hid (mnI lx px = lx) := by show _ = _; unfold mnI; omega
                have e2 : Hid (mnI ly py = ly) := by show _ = _; unfold mnI; omega
                have e3 : Hid (mxI ux px = px) := by show _ = _; unfold mxI; omega
                have e4 : Hid (mxI uy py = uy) := by show _ = _; unfold mxI; omega
                have d1 : decide (px < lx) = false := by simp; omega
                have d2 : decide (py < ly) = false := by simp; omega
                have d3 : decide (ux < px) = true := by simp; omega
                have d4 : decide (uy < py) = false := by simp; omega
                go_wp2_with fail
                go_roundw
                case rel =>
                  refine ⟨k + 1, by omega, by go_num, ?_, ?_, ?_, ?_, ?_, ?_⟩
                  · exact (hO.far (by simp; omega) _).alloc _
                  · exact (hR.far (by simp) _).alloc _
                  · exact (hS.far (by simp) _).alloc _
                  · rw [hlo.out.1, e1.out, e2.out]
                    exact (hL.far (by simp) _).alloc _
                  · rw [hlo.out.2, e3.out, e4.out]
                    exact (hH.set 0 _).alloc _
                  · exact (hbl.setCell (by simp; omega) _).alloc (by simp; omega) _
                case measure => simp [intOf]; omega
            · by_cases g4 : uy < py
              · have e1 : Hid (mnI lx px = lx) := by show _ = _; unfold mnI; omega
                have e2 : Hid (mnI ly py = ly) := by show _ = _; unfold mnI; omega
                have e3 : Hid (mxI ux px = ux) := by show _ = _; unfold mxI; omega
                have e4 : Hid (mxI uy py = py) := by show _ = _; unfold mxI; omega
                have d1 : decide (px < lx) = false := by simp; omega
                have d2 : decide (py < ly) = false := by simp; omega
                have d3 : decide (ux < px) = false := by simp; omega
                have d4 : decide (uy < py) = true := by simp; omega
                go_wp2_with fail
                go_roundw
                case rel =>
                  refine ⟨k + 1, by omega, by go_num, ?_, ?_, ?_, ?_, ?_, ?_⟩
                  · exact (hO.far (by simp; omega) _).alloc _
                  · exact (hR.far (by simp) _).alloc _
                  · exact (hS.far (by simp) _).alloc _
                  · rw [hlo.out.1, e1.out, e2.out]
                    exact (hL.far (by simp) _).alloc _
                  · rw [hlo.out.2, e3.out, e4.out]
                    exact (hH.set 1 _).alloc _
                  · exact (hbl.setCell (by simp; omega) _).alloc (by simp; omega) _
                case measure => simp [intOf]; omega
              · have e1 : Hid (mnI lx px = lx) := by show _ = _; unfold mnI; omega
                have e2 : Hid (mnI ly py = ly) := by show _ = _; unfold mnI; omega
                have e3 : Hid (mxI ux px = ux) := by show _ = _; unfold mxI; omega
                have e4 : Hid (mxI uy py = uy) := by show _ = _; unfold mxI; omega
                have d1 : decide (px < lx) = false := by simp; omega
                have d2 : decide (py < ly) = false := by simp; omega
                have d3 : decide (ux < px) = false := by simp; omega
                have d4 : decide (uy < py) = false := by simp; omega
                go_wp2_with fail
                go_roundw
                case rel =>
                  refine ⟨k + 1, by omega, by go_num, ?_, ?_, ?_, ?_, ?_, ?_⟩
                  · exact hO.alloc _
                  · exact hR.alloc _
                  · exact hS.alloc _
                  · rw [hlo.out.1, e1.out, e2.out]
                    exact hL.alloc _
                  · rw [hlo.out.2, e3.out, e4.out]
                    exact hH.alloc _
                  · exact hbl.alloc (by omega) _
                case measure => simp [intOf]; omega
    · have l0 : wr.cell? ⟨w.heap.size + 1 + 1 + 1, 0, none⟩ = some (.int .i64 (lowP (ps.take k)).1) := hL.cell 0
      have l1 : wr.cell? ⟨w.heap.size + 1 + 1 + 1, 1, none⟩ = some (.int .i64 (lowP (ps.take k)).2) := hL.cell 1
      have u0 : wr.cell? ⟨w.heap.size + 1 + 1 + 1 + 1, 0, none⟩ = some (.int .i64 (highP (ps.take k)).1) := hH.cell 0
      have u1 : wr.cell? ⟨w.heap.size + 1 + 1 + 1 + 1, 1, none⟩ = some (.int .i64 (highP (ps.take k)).2) := hH.cell 1
      have hkk : ps.take k = ps := List.take_of_length_le (by rw [hlen.out]; omega)
      rw [hkk] at l0 l1 u0 u1
      have r0 : wr.cell? ⟨w.heap.size + 1, 0, none⟩ = some (.int .i64 0) := hR.cell 0
      have r1 : wr.cell? ⟨w.heap.size + 1, 1, none⟩ = some (.int .i64 0) := hR.cell 1
      have r2 : wr.cell? ⟨w.heap.size + 1, 2, none⟩ = some (.bool false) := hR.cell 2
      have s0 : wr.cell? ⟨w.heap.size + 1 + 1, 0, none⟩ = some (.int .i64 0) := hS.cell 0
      have s1 : wr.cell? ⟨w.heap.size + 1 + 1, 1, none⟩ = some (.int .i64 0) := hS.cell 1
      have s2 : wr.cell? ⟨w.heap.size + 1 + 1, 2, none⟩ = some (.bool false) := hS.cell 2
      have rf : ∀ i, wr.frozen? ⟨w.heap.size + 1, i, none⟩ = false := hR.frozen
      have sf : ∀ i, wr.frozen? ⟨w.heap.size + 1 + 1, i, none⟩ = false := hS.frozen
      clear hkk hO0 hR0 hS0 hL0 hH0 hb0
      generalize hg1 : (lowP ps).1 = lx at *
      generalize hg2 : (lowP ps).2 = ly at *
      generalize hg3 : (highP ps).1 = ux at *
      generalize hg4 : (highP ps).2 = uy at *
      have G1 := Lib.hid hg1
      have G2 := Lib.hid hg2
      have G3 := Lib.hid hg3
      have G4 := Lib.hid hg4
      clear hg1 hg2 hg3 hg4
      go_wp2_with fail
      go_region
      go_wp2_with fail
      refine bodyPost_ret (v := .tuple #[.agg #[.int .i64 lx, .int .i64 ly, .bool false], .agg #[.int .i64 ux, .int .i64 uy, .bool false], .bool (decide (0 < n))]) (by simp [results, Try.results29, go_sem, r0, r1, r2, s0, s1, s2]) rfl ⟨?_, ?_⟩
      · rw [G1.out, G2.out, G3.out, G4.out, hlen.out]
      · exact ((((((hbl.setCell (by simp) _).setCell (by simp) _).setCell (by simp) _).setCell (by simp; omega) _).setCell (by simp; omega) _).setCell (by simp; omega) _).drew
end Go.Proofs.Ytfpdbdbgemolgaa
