/- The contract of outline.Right. -/
import Derived.Test.YtfpdbdbgemolgaaClone
namespace Go.Proofs.Ytfpdbdbgemolgaa
open Go.RowKit

def inR (z : Int) : Bool := decide (-16384 ≤ z) && decide (z ≤ 16384)
def endsR (n : Nat) : Int → List Int → Bool
  | l, [] => decide (l = (n : Int) - 1)
  | l, e :: es => decide (e < (n : Int)) && decide (l + 2 ≤ e) && endsR n e es
def rightB (ps : List P3) (es : List Int) : Bool := decide (ps.length ≤ 200) && decide (es.length ≤ 40) && ps.all (fun p => inR p.1 && inR p.2.1) && endsR ps.length (-1) es

theorem within_in (n : Int) (w : World) : Calls Try.prog 45 #[.int .i64 n] w fun e w' => e = .returned (.bool (inR n)) ∧ w = w' := within_any n w
theorem all_take_succ (ps : List P3) (k : Nat) (x y : Int) (z : Bool) (h : ps[k]? = some (x, y, z)) (f : P3 → Bool) : (ps.take (k + 1)).all f = ((ps.take k).all f && f (x, y, z)) := by
  obtain ⟨hk, hg⟩ := List.getElem?_eq_some_iff.1 h
  rw [List.take_succ_eq_append_getElem hk, hg]
  simp

set_option maxHeartbeats 2000000 in
theorem right_ok (w : World) (B : Nat) (A E : Option Addr) (n c m d : Nat) (ps : List P3) (es : List Int) (hA : Rd w B A n 3 (c3s ps)) (hE : Rd w B E m 1 (cIs es)) (hB : B ≤ w.heap.size) (hn : n ≤ 9223372036854775807) :
    Calls Try.prog 23 #[.agg #[.slice A n c, .slice E m d]] w fun e w' => e = .returned (.bool (rightB ps es)) ∧ Below w.heap.size w w' := by
  have hlp := Lib.hid hA.len3
  have hle := Lib.hid hE.lenI
  by_cases h1 : 200 < n
  · have hr : Hid (rightB ps es = false) := by
      show _ = _
      simp only [rightB, hlp.out]
      rw [decide_eq_false (by omega)]
      rfl
    have hd : decide ((200 : Int) < (n : Int)) = true := by simp; omega
    go_enter Try.func23, Try.ntmps23
    go_wp2
    go_ret
    exact ⟨by rw [hr.out]; simp, (Below.refl _ _).alloc (Nat.le_refl _) _⟩
  · have hd : decide ((200 : Int) < (n : Int)) = false := by simp; omega
    by_cases h2 : 40 < m
    · have hr : Hid (rightB ps es = false) := by
        show _ = _
        simp only [rightB, hle.out]
        rw [decide_eq_false (p := m ≤ 40) (by omega)]
        simp
      go_enter Try.func23, Try.ntmps23
      go_wp2
      go_ret
      exact ⟨by rw [hr.out]; simp, (Below.refl _ _).alloc (Nat.le_refl _) _⟩
    · have hd2 : decide ((40 : Int) < (m : Int)) = false := by simp; omega
      go_enter Try.func23, Try.ntmps23
      go_wp2_with fail
      obtain ⟨W0, hW0⟩ : ∃ W0, w.alloc (.cells #[.slice A n c, .slice E m d] 25) = W0 := ⟨_, rfl⟩
      have hs0 : W0.heap.size = w.heap.size + 1 := by rw [← hW0]; simp
      have hb0 : Below w.heap.size w W0 := by rw [← hW0]; exact (Below.refl _ _).alloc (Nat.le_refl _) _
      have hO0 : W0.cell? ⟨w.heap.size, 0, none⟩ = some (.slice A n c) := by rw [← hW0]; simp [go_sem]
      have hO1 : W0.cell? ⟨w.heap.size, 1, none⟩ = some (.slice E m d) := by rw [← hW0]; simp [go_sem]
      rw [hW0]
      have hl0 : w.heap.size < W0.heap.size := by omega
      have Hs := Lib.hid hs0
      clear hW0 hs0
      go_loopw [21] (fun i wr => ∃ k : Nat, k ≤ n ∧ i = .int .i64 k ∧ Below W0.heap.size W0 wr ∧ Hid ((ps.take k).all (fun p => inR p.1 && inR p.2.1) = true)) (fun i _ => n - (intOf i).toNat)
      case atStart => exact ⟨0, by omega, rfl, Below.refl _ _, rfl⟩
      case round =>
        obtain ⟨k, hk, rfl, hbl, hall⟩ := hrel
        by_cases hlt : k < n
        · obtain ⟨b, o, x, y, z, rfl, hbB, hp, q1, q2, q3⟩ := ((hA.below hb0 hB).below hbl (by omega)).at3 hlt
          have hst := Lib.hid (all_take_succ ps k x y z hp.out (fun p => inR p.1 && inR p.2.1))
          have hno : Hid (¬ (inR x && inR y) = true → rightB ps es = false) := by
            intro hx
            have : ps.all (fun p => inR p.1 && inR p.2.1) = false := by
              rw [List.all_eq_false]
              exact ⟨_, List.mem_of_getElem? hp.out, hx⟩
            simp [rightB, this]
          have hbend : ∀ o, Below w.heap.size w (wr.alloc o) := fun o => (hb0.trans (hbl.mono (by omega))).alloc (by have := hbl.size; omega) _
          have Hbend := Lib.hid hbend
          clear hbend
          by_cases hx : inR x = true
          · by_cases hy : inR y = true
            · go_wp2_with (go_at_call 45; refine (within_in _ _).mono ?_; rintro e w' ⟨rfl, rfl⟩)
              go_roundw
              case rel => exact ⟨k + 1, by omega, by go_num, hbl.alloc hbl.size _, by show _ = _; rw [hst.out, hall.out, hx, hy]; rfl⟩
              case measure => simp [intOf]; omega
            · have hy' : inR y = false := by simpa using hy
              go_wp2_with (go_at_call 45; refine (within_in _ _).mono ?_; rintro e w' ⟨rfl, rfl⟩)
              go_ret
              exact ⟨by rw [hno.out (by simp [hy'])]; simp, Hbend.out _⟩
          · have hx' : inR x = false := by simpa using hx
            go_wp2_with (go_at_call 45; refine (within_in _ _).mono ?_; rintro e w' ⟨rfl, rfl⟩)
            go_ret
            exact ⟨by rw [hno.out (by simp [hx'])]; simp, Hbend.out _⟩
        · have hall' : Hid (ps.all (fun p => inR p.1 && inR p.2.1) = true) := by
            have := hall.out
            rw [List.take_of_length_le (by have := hlp.out; omega)] at this
            exact this
          have hO2 := (hbl.cell (p := ⟨w.heap.size, 0, none⟩) (by simpa using hl0)).trans hO0
          have hO3 := (hbl.cell (p := ⟨w.heap.size, 1, none⟩) (by simpa using hl0)).trans hO1
          have hbw : Below w.heap.size w wr := hb0.trans (hbl.mono (by omega))
          have hr : Hid (rightB ps es = endsR n (-1) es) := by
            show _ = _
            simp only [rightB, hlp.out, hle.out, hall'.out]
            rw [decide_eq_true (p := n ≤ 200) (by omega), decide_eq_true (p := m ≤ 40) (by omega)]
            simp
          clear hbl hall
          obtain ⟨w1, rfl⟩ : ∃ w1 : World, w1 = wr := ⟨_, rfl⟩
          go_wp2_with fail
          go_loopw [5, 39] (fun l i ws => ∃ (k : Nat) (z : Int), k ≤ m ∧ i = .int .i64 k ∧ l = .int .i64 z ∧ -1 ≤ z ∧ z ≤ n ∧ ws = w1 ∧ Hid (endsR n z (es.drop k) = endsR n (-1) es)) (fun _ i _ => m - (intOf i).toNat)
          case atStart => exact ⟨0, -1, by omega, rfl, rfl, by omega, by omega, rfl, rfl⟩
          case round =>
            obtain ⟨k, z, hk, rfl, rfl, hz1, hz2, rfl, hen⟩ := hrel
            by_cases hlt2 : k < m
            · obtain ⟨b, o, e, rfl, hbB, hp, q1⟩ := (hE.below hbw hB).atI hlt2
              have hdrop : Hid (es.drop k = e :: es.drop (k + 1)) := by
                obtain ⟨h1, h2⟩ := List.getElem?_eq_some_iff.1 hp.out
                have := List.drop_eq_getElem_cons h1
                rw [h2] at this
                exact this
              by_cases hhi : (n : Int) ≤ e
              · have hf : Hid (rightB ps es = false) := by
                  show _ = _
                  rw [hr.out, ← hen.out, hdrop.out, endsR, decide_eq_false (by omega)]
                  rfl
                have hdd : decide ((n : Int) ≤ e) = true := by simp [hhi]
                go_wp2
                go_ret
                exact ⟨by rw [hf.out]; simp, hbw⟩
              · have hdd : decide ((n : Int) ≤ e) = false := by simp; omega
                by_cases hlo : e < z + 2
                · have hf : Hid (rightB ps es = false) := by
                    show _ = _
                    rw [hr.out, ← hen.out, hdrop.out, endsR, decide_eq_false (p := z + 2 ≤ e) (by omega)]
                    simp
                  go_wp2
                  go_ret
                  exact ⟨by rw [hf.out]; simp, hbw⟩
                · go_wp2
                  go_roundw
                  case rel =>
                    refine ⟨k + 1, e, by omega, by go_num, rfl, by omega, by omega, by first | rfl | trivial, ?_⟩
                    show _ = _
                    have := hen.out
                    rw [hdrop.out, endsR, decide_eq_true (p := e < (n : Int)) (by omega), decide_eq_true (p := z + 2 ≤ e) (by omega)] at this
                    simpa using this
                  case measure => simp [intOf]; omega
            · go_wp2
              go_ret
              refine ⟨?_, hbw⟩
              have := hen.out
              rw [List.drop_eq_nil_of_le (by have := hle.out; omega), endsR] at this
              rw [hr.out, ← this]
              simp [Bool.beq_eq_decide_eq]
end Go.Proofs.Ytfpdbdbgemolgaa
