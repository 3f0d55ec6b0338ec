/- fleuronlaw09.UnparseOps returns true. -/
import Derived.Test.YtkijckccfookeaaDoorOpsB
namespace Go.Proofs.YtkijckccfookeaaDoor
open Go.RowKit Go.Shelf Go.Sort

theorem opIx_q : opIx [63] = 0 := by decide
theorem opIx_opB (n : Int) (h1 : 1 ≤ n) (h2 : n ≤ 39) : opIx (opB n) = n := by
  have h : ∀ i : Fin 39, opIx (opB ((i.val : Int) + 1)) = (i.val : Int) + 1 := by decide +kernel
  have := h ⟨(n - 1).toNat, by omega⟩
  have e : (((n - 1).toNat : Nat) : Int) + 1 = n := by omega
  simp only [e] at this
  exact this
set_option maxRecDepth 100000 in
set_option maxHeartbeats 2000000 in
theorem unparseOps_ok (w : World) (n : Int) (hT : Tabs w) (hP : TabS w 1 (strs opNames)) (hG : nG ≤ w.heap.size) : Calls Tryd.prog 4 #[.int .i64 n] w fun e w' => e = .returned (.bool true) ∧ Below w.heap.size w w' := by
  have hop := Lib.hid (op_ok w n hT)
  have hpr := Lib.hid (printed_ok w hT hG)
  by_cases hin : n < 1 ∨ 39 < n
  · have he : opB n = [63] := by
      rcases hin with h | h
      · exact pick_lo opNames n h
      · exact pick_hi opNames n (by show ((39 : Nat) : Int) < n; omega)
    rw [he] at hop
    have hpo := parseOp_ok w [63] hP
    rw [opIx_q] at hpo
    have Hpo := Lib.hid hpo
    clear he hpo
    rcases hin with h | h
    all_goals
      go_enter Tryd.func4, Tryd.ntmps4
      go_wp2_with fail
      refine hop.out.mono ?_
      rintro e w' ⟨rfl, rfl⟩
      go_wp2_with fail
      refine Hpo.out.mono ?_
      rintro e w' ⟨rfl, rfl⟩
      go_wp2_with fail
      refine hpr.out.mono ?_
      rintro e w1 ⟨rfl, hb1⟩
      go_wp2
      go_ret
      exact ⟨rfl, hb1⟩
  · have h1 : 1 ≤ n := by omega
    have h2 : n ≤ 39 := by omega
    have hpo := parseOp_ok w (opB n) hP
    rw [opIx_opB n h1 h2] at hpo
    have hne : (n != 0) = true := by simp; omega
    rw [hne] at hpo
    have Hpo := Lib.hid hpo
    have hro := Lib.hid (fun w => refOp_ok w n)
    have hol := opB_len n
    clear hpo hin hne
    generalize opB n = s at *
    have hss : (s == s) = true := by simp
    go_enter Tryd.func4, Tryd.ntmps4
    go_wp2_with fail
    refine hop.out.mono ?_
    rintro e w' ⟨rfl, rfl⟩
    go_wp2_with fail
    refine Hpo.out.mono ?_
    rintro e w' ⟨rfl, rfl⟩
    go_wp2_with fail
    refine hpr.out.mono ?_
    rintro e w1 ⟨rfl, hb1⟩
    go_wp2_with fail
    refine (hro.out w1).mono ?_
    rintro e w2 ⟨rfl, hb2⟩
    go_wp2
    go_ret
    exact ⟨rfl, bt hb1 hb2⟩
end Go.Proofs.YtkijckccfookeaaDoor
