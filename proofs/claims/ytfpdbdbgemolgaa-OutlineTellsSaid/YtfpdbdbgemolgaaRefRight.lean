/- The contract of fleuronref03.Right. -/
import Derived.Test.YtfpdbdbgemolgaaTurns
import Derived.Test.YtfpdbdbgemolgaaPureBox
namespace Go.Proofs.Ytfpdbdbgemolgaa
open Go.RowKit

/-- the reference's word on ends -/
def endsX (n : Nat) : Int → List Int → Bool
  | l, [] => l == (n : Int) - 1
  | l, e :: es => decide (e ≤ (n : Int)) && decide (l + 2 ≤ e) && endsX n e es
theorem endsX_eq (n : Nat) : ∀ (es : List Int) (l : Int), endsX n l es = endsR n l es := by
  intro es
  induction es with
  | nil => intro l; rw [endsX, endsR]; rw [Bool.beq_eq_decide_eq]
  | cons e es ih =>
    intro l
    rw [endsX, endsR]
    by_cases h1 : e < (n : Int)
    · rw [ih, decide_eq_true (p := e ≤ (n : Int)) (by omega), decide_eq_true (p := e < (n : Int)) h1]
    · rw [decide_eq_false (p := e < (n : Int)) h1]
      by_cases h2 : e ≤ (n : Int)
      · have : e = n := by omega
        subst this
        have hx : endsX n (n : Int) es = false := by
          cases es with
          | nil => rw [endsX]; rw [beq_eq_false_iff_ne]; omega
          | cons e' es =>
            rw [endsX]
            by_cases h3 : e' ≤ (n : Int)
            · rw [decide_eq_false (p := (n : Int) + 2 ≤ e') (by omega)]; simp
            · rw [decide_eq_false h3]; simp
        rw [hx]
        simp
      · rw [decide_eq_false h2]
        simp

set_option maxRecDepth 100000 in
set_option maxHeartbeats 4000000 in
theorem refRight_ok (w : World) (B : Nat) (A E : Option Addr) (n c m d : Nat) (ps : List P3) (es : List Int) (hA : Rd w B A n 3 (c3s ps)) (hE : Rd w B E m 1 (cIs es)) (hB : B ≤ w.heap.size) (hn : n ≤ 9223372036854775807) :
    Calls Try.prog 30 #[.agg #[.slice A n c, .slice E m d]] w fun e w' => e = .returned (.bool (rightB ps es)) ∧ Below w.heap.size w w' := by
  have hlp := Lib.hid hA.len3
  have hle := Lib.hid hE.lenI
  by_cases h1 : 200 < n
  · have hr : Hid (rightB ps es = false) := by
      show _ = _
      simp only [rightB, hlp.out]
      rw [decide_eq_false (by omega)]
      rfl
    have hd : decide ((200 : Int) < (n : Int)) = true := by simp; omega
    go_enter Try.func30, Try.ntmps30
    go_wp2
    go_ret
    exact ⟨by rw [hr.out]; simp, (Below.refl _ _).alloc (Nat.le_refl _) _⟩
  · have hd : decide ((200 : Int) < (n : Int)) = false := by simp; omega
    by_cases h2 : 40 < m
    · have hr : Hid (rightB ps es = false) := by
        show _ = _
        simp only [rightB, hle.out]
        rw [decide_eq_false (p := m ≤ 40) (by omega)]
        simp
      go_enter Try.func30, Try.ntmps30
      go_wp2
      go_ret
      exact ⟨by rw [hr.out]; simp, (Below.refl _ _).alloc (Nat.le_refl _) _⟩
    · have hd2 : decide ((40 : Int) < (m : Int)) = false := by simp; omega
      go_enter Try.func30, Try.ntmps30
      go_wp2_with fail
      obtain ⟨W0, hW0⟩ : ∃ W0, w.alloc (.cells #[.slice A n c, .slice E m d] 25) = W0 := ⟨_, rfl⟩
      have hs0 : W0.heap.size = w.heap.size + 1 := by rw [← hW0]; simp
      have hb0 : Below w.heap.size w W0 := by rw [← hW0]; exact (Below.refl _ _).alloc (Nat.le_refl _) _
      have hO0 : Bk W0 w.heap.size 25 #[.slice A n c, .slice E m d] := by rw [← hW0]; exact Bk.new _ _ _
      rw [hW0]
      have hl0 : w.heap.size < W0.heap.size := by omega
      have Hs := Lib.hid hs0
      clear hW0 hs0
      go_loopw [3] (fun i wr => ∃ k : Nat, k ≤ n ∧ i = .int .i64 k ∧ Below W0.heap.size W0 wr ∧ Hid ((ps.take k).all (fun p => inR p.1 && inR p.2.1) = true)) (fun i _ => n - (intOf i).toNat)
      case atStart => exact ⟨0, by omega, rfl, Below.refl _ _, rfl⟩
      case round =>
        obtain ⟨k, hk, rfl, hbl, hall⟩ := hrel
        have hO : Bk wr w.heap.size 25 #[.slice A n c, .slice E m d] := (hbl.block _ hO0.lt).trans hO0
        have q0 : wr.cell? ⟨w.heap.size, 0, none⟩ = some (.slice A n c) := hO.cell 0
        have q1 : wr.cell? ⟨w.heap.size, 1, none⟩ = some (.slice E m d) := hO.cell 1
        have hlr := hO.lt
        by_cases hlt : k < n
        · obtain ⟨b, o, x, y, z, rfl, hbB, hp, t1, t2, t3⟩ := ((hA.below hb0 hB).below hbl (by omega)).at3 hlt
          have hst := Lib.hid (all_take_succ ps k x y z hp.out (fun p => inR p.1 && inR p.2.1))
          have hno : Hid (¬ (inR x && inR y) = true → rightB ps es = false) := by
            intro hx
            have : ps.all (fun p => inR p.1 && inR p.2.1) = false := by
              rw [List.all_eq_false]
              exact ⟨_, List.mem_of_getElem? hp.out, hx⟩
            simp [rightB, this]
          have hbend : ∀ o, Below w.heap.size w (wr.alloc o) := fun o => (hb0.trans (hbl.mono (by omega))).alloc (by have := hbl.size; omega) _
          have Hbend := Lib.hid hbend
          clear hbend
          have zb : b < wr.heap.size := by omega
          have hcase : decide (x < -16384) = true ∨ (decide (x < -16384) = false ∧ decide (16384 < x) = true) ∨ (decide (x < -16384) = false ∧ decide (16384 < x) = false ∧ decide (y < -16384) = true) ∨ (decide (x < -16384) = false ∧ decide (16384 < x) = false ∧ decide (y < -16384) = false ∧ decide (16384 < y) = true) ∨ (decide (x < -16384) = false ∧ decide (16384 < x) = false ∧ decide (y < -16384) = false ∧ decide (16384 < y) = false) := by
            simp only [decide_eq_true_eq, decide_eq_false_iff_not]
            omega
          have hbad : Hid (x < -16384 ∨ 16384 < x ∨ y < -16384 ∨ 16384 < y → rightB ps es = false) := fun h => hno.out (fun h' => by
            rw [Bool.and_eq_true, inR_iff, inR_iff] at h'
            omega)
          rcases hcase with g1 | ⟨g1, g2⟩ | ⟨g1, g2, g3⟩ | ⟨g1, g2, g3, g4⟩ | ⟨g1, g2, g3, g4⟩
          · have hf := Lib.hid (hbad.out (.inl (by simpa using g1)))
            go_wp2_with fail
            go_ret
            exact ⟨by rw [hf.out]; simp, Hbend.out _⟩
          · have hf := Lib.hid (hbad.out (.inr (.inl (by simpa using g2))))
            go_wp2_with fail
            go_ret
            exact ⟨by rw [hf.out]; simp, Hbend.out _⟩
          · have hf := Lib.hid (hbad.out (.inr (.inr (.inl (by simpa using g3)))))
            go_wp2_with fail
            go_ret
            exact ⟨by rw [hf.out]; simp, Hbend.out _⟩
          · have hf := Lib.hid (hbad.out (.inr (.inr (.inr (by simpa using g4)))))
            go_wp2_with fail
            go_ret
            exact ⟨by rw [hf.out]; simp, Hbend.out _⟩
          · have hok : Hid ((inR x && inR y) = true) := by
              show _ = _
              simp only [decide_eq_false_iff_not] at g1 g2 g3 g4
              rw [Bool.and_eq_true, inR_iff, inR_iff]
              omega
            go_wp2_with fail
            go_roundw
            case rel => exact ⟨k + 1, by omega, by go_num, hbl.alloc hbl.size _, by show _ = _; rw [hst.out, hall.out, hok.out]; rfl⟩
            case measure => simp [intOf]; omega
        · have hall' : Hid (ps.all (fun p => inR p.1 && inR p.2.1) = true) := by
            have := hall.out
            rw [List.take_of_length_le (by have := hlp.out; omega)] at this
            exact this
          have hbw : Below w.heap.size w wr := hb0.trans (hbl.mono (by omega))
          have hr : Hid (rightB ps es = endsX n (-1) es) := by
            show _ = _
            rw [endsX_eq]
            simp only [rightB, hlp.out, hle.out, hall'.out]
            rw [decide_eq_true (p := n ≤ 200) (by omega), decide_eq_true (p := m ≤ 40) (by omega)]
            simp
          clear hbl hall
          obtain ⟨w1, rfl⟩ : ∃ w1 : World, w1 = wr := ⟨_, rfl⟩
          have Hq0 := Lib.hid q0
          have Hq1 := Lib.hid q1
          go_wp2_with fail
          clear q0 q1
          go_loopw [5, 6] (fun l i ws => ∃ (k : Nat) (z : Int), k ≤ m ∧ i = .int .i64 k ∧ l = .int .i64 z ∧ -1 ≤ z ∧ z ≤ n + 1 ∧ Hid (∃ q, ws = w1.drewN q) ∧ Hid (endsX n z (es.drop k) = endsX n (-1) es)) (fun _ i _ => m - (intOf i).toNat)
          case atStart => exact ⟨0, -1, by omega, rfl, rfl, by omega, by omega, ⟨0, rfl⟩, rfl⟩
          case round =>
            obtain ⟨k, z, hk, rfl, rfl, hz1, hz2, hw, hen⟩ := hrel
            have q0 : wr.cell? ⟨w.heap.size, 0, none⟩ = some (.slice A n c) := by obtain ⟨q, rfl⟩ := hw.out; exact Hq0.out
            have q1 : wr.cell? ⟨w.heap.size, 1, none⟩ = some (.slice E m d) := by obtain ⟨q, rfl⟩ := hw.out; exact Hq1.out
            have hbw2 : Below w.heap.size w wr := by obtain ⟨q, rfl⟩ := hw.out; exact below_drewN hbw q
            by_cases hlt2 : k < m
            · obtain ⟨b, o, e, rfl, hbB, hp, t1⟩ := (hE.below hbw2 hB).atI hlt2
              have hdrop : Hid (es.drop k = e :: es.drop (k + 1)) := by
                obtain ⟨h1, h2⟩ := List.getElem?_eq_some_iff.1 hp.out
                have := List.drop_eq_getElem_cons h1
                rw [h2] at this
                exact this
              have zk : (k : Int) < (m : Int) := by omega
              have zk0 : (0 : Int) ≤ (k : Int) := by omega
              have wz : IntKind.i64.wrap (z + 2) = z + 2 := IntWalk.i64_in _ (by omega)
              by_cases hhi : (n : Int) < e
              · have hf : Hid (rightB ps es = false) := by
                  show _ = _
                  rw [hr.out, ← hen.out, hdrop.out, endsX, decide_eq_false (by omega)]
                  rfl
                have hdd : decide ((n : Int) < e) = true := by simp [hhi]
                go_wp2_with fail
                go_quiet (fail)
                clear wz
                go_wp2_with fail
                go_ret
                exact ⟨by rw [hf.out]; simp, below_drewN hbw2 _⟩
              · have hdd : decide ((n : Int) < e) = false := by simp; omega
                by_cases hlo : e < z + 2
                · have hf : Hid (rightB ps es = false) := by
                    show _ = _
                    rw [hr.out, ← hen.out, hdrop.out, endsX, decide_eq_false (p := z + 2 ≤ e) (by omega)]
                    simp
                  have hdl : decide (e < z + 2) = true := by simp [hlo]
                  go_wp2_with fail
                  go_quiet (fail)
                  clear wz
                  go_wp2_with fail
                  go_ret
                  exact ⟨by rw [hf.out]; simp, below_drewN hbw2 _⟩
                · have hdl : decide (e < z + 2) = false := by simp; omega
                  go_wp2_with fail
                  go_quiet (fail)
                  clear wz
                  go_wp2_with fail
                  go_roundw
                  case rel =>
                    refine ⟨k + 1, e, by omega, by go_num, rfl, by omega, by omega, by obtain ⟨q, rfl⟩ := hw.out; exact ⟨q + _, by rw [World.drewN_drewN]⟩, ?_⟩
                    show _ = _
                    have := hen.out
                    rw [hdrop.out, endsX, decide_eq_true (p := e ≤ (n : Int)) (by omega), decide_eq_true (p := z + 2 ≤ e) (by omega)] at this
                    simpa using this
                  case measure => simp [intOf]; omega
            · go_wp2_with fail
              go_ret
              refine ⟨?_, hbw2⟩
              have := hen.out
              rw [List.drop_eq_nil_of_le (by have := hle.out; omega), endsX] at this
              rw [hr.out, ← this]
              simp
end Go.Proofs.Ytfpdbdbgemolgaa
