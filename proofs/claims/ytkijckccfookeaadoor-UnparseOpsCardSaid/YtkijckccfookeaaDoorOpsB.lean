/- parse.Op; fleuronref09.Names, pick, Op. -/
import Derived.Test.YtkijckccfookeaaDoorOpsA
import Derived.Laws.Rows
namespace Go.Proofs.YtkijckccfookeaaDoor
open Go.RowKit Go.Shelf Go.Sort

/-- the number of an instruction's name; 0: it is none -/
def opIx (t : B) : Int := if t ∈ opNames then (opNames.findIdx (· == t) : Int) + 1 else 0
theorem opIx_none (t : B) (h : ∀ (j : Nat) (s : B), opNames[j]? = some s → s ≠ t) : opIx t = 0 := by
  rw [opIx, if_neg]
  intro hm
  obtain ⟨j, hj⟩ := List.mem_iff_getElem?.1 hm
  exact h j t hj rfl
theorem opIx_at (t : B) (k : Nat) (h : opNames[k]? = some t) (hl : ∀ (j : Nat) (s : B), j < k → opNames[j]? = some s → s ≠ t) : opIx t = (k : Int) + 1 := by
  rw [opIx, if_pos (List.mem_of_getElem? h)]
  have : opNames.findIdx (· == t) = k := by
    rw [List.findIdx_eq (List.getElem?_eq_some_iff.1 h).1]
    obtain ⟨hk, hg⟩ := List.getElem?_eq_some_iff.1 h
    refine ⟨by simp [hg], fun j hj => ?_⟩
    have := hl j opNames[j] hj (List.getElem?_eq_getElem (by omega))
    simpa using this
  rw [this]
theorem ops_len : opNames.length = 39 := by decide
theorem index_names (k : Nat) (s : B) (h : opNames[k]? = some s) (w : World) : (Instr.index 109 (.agg (strs opNames).toArray) (.int .i64 (k : Int))).run Tryd.prog w = .ok (.string ⟨s.toArray⟩) w := by
  have hk : k < 39 := by have := (List.getElem?_eq_some_iff.1 h).1; rw [ops_len] at this; exact this
  have hs := strs_get h
  have hk2 : (k : Int) < 39 := by omega
  have hk3 : (0 : Int) ≤ k := by omega
  simp [Instr.index, go_sem, hk2, hk3, hs]
  omega
theorem size_names : (strs opNames).toArray.size = 39 := by simp [strs_len, ops_len]
set_option maxRecDepth 100000 in
set_option maxHeartbeats 2000000 in
theorem parseOp_ok (w : World) (t : B) (hT : TabS w 1 (strs opNames)) : Calls Tryd.prog 14 #[.string ⟨t.toArray⟩] w fun e w' => e = .returned (.tuple #[.int .i64 (opIx t), .bool (opIx t != 0)]) ∧ w = w' := by
  obtain ⟨ty, fz, hb⟩ := hT
  have hix := Lib.hid index_names
  have hsz := size_names
  have hpost : Hid (∀ k : Nat, (∀ j s, j < k → opNames[j]? = some s → s ≠ t) → ((opNames[k]? = some t → opIx t = (k : Int) + 1) ∧ (39 ≤ k → opIx t = 0))) := fun k hl => by
    refine ⟨fun h => opIx_at t k h hl, fun hk => opIx_none t fun j s hj => hl j s ?_ hj⟩
    have := (List.getElem?_eq_some_iff.1 hj).1
    rw [ops_len] at this
    omega
  generalize (strs opNames).toArray = cs at *
  have Hsz := Lib.hid (show (Tryd.prog.info? 109).map (·.size) = some cs.size by rw [hsz]; kernel_rfl)
  clear hsz
  go_enter Tryd.func14, Tryd.ntmps14
  go_wp2_with (refine wpList_load_row rfl 109 (.global 1) rfl 1 rfl ty cs fz _ hb Tryd.underlying109 rfl Hsz.out ?_)
  go_loop [7] (fun i => ∃ k : Nat, k ≤ 39 ∧ i = .int .i64 k ∧ Hid (∀ j s, j < k → opNames[j]? = some s → s ≠ t)) (fun i => 39 - (intOf i).toNat)
  case atStart => exact ⟨0, by omega, rfl, fun j s hj => by omega⟩
  case round =>
    obtain ⟨k, hk, rfl, hl⟩ := hrel
    by_cases hlt : k < 39
    · obtain ⟨s, hs⟩ : ∃ s, opNames[k]? = some s := ⟨_, List.getElem?_eq_getElem (by rw [ops_len]; exact hlt)⟩
      have hrun := hix.out k s hs
      by_cases he : s = t
      · have hres := Lib.hid ((hpost.out k hl.out).1 (by rw [hs, he]))
        have e1 : (s == t) = true := by simp [he]
        clear hs he
        go_wp2
        go_ret2
        rw [hres.out]
        refine ⟨?_, rfl⟩
        have : (((k : Int) + 1) != 0) = true := by simp; omega
        rw [this]
        rfl
      · have hnx : Hid (∀ j s, j < k + 1 → opNames[j]? = some s → s ≠ t) := fun j s' hj hs' => by
          by_cases hjk : j = k
          · subst hjk
            rw [hs] at hs'
            cases hs'
            exact he
          · exact hl.out j s' (by omega) hs'
        have e1 : (s == t) = false := by simpa using he
        clear hs he
        go_wp2
        go_round
        case rel => exact ⟨k + 1, by omega, by simp, hnx⟩
        case measure => simp [intOf]; omega
    · have hres := Lib.hid ((hpost.out k hl.out).2 (by omega))
      go_wp2
      go_ret2
      rw [hres.out]
      exact ⟨rfl, rfl⟩
set_option maxHeartbeats 2000000 in
set_option maxRecDepth 100000 in
theorem names_lit (w : World) : Calls Tryd.prog 33 #[] w fun e w' => e = .returned (.slice (some ⟨w.heap.size, 0, none⟩) 39 39) ∧ w' = w.alloc (.cells (strs opNames).toArray 9) := by
  go_enter Tryd.func33, Tryd.ntmps33
  go_wp2
  go_ret
  exact ⟨rfl, rfl⟩
set_option maxRecDepth 100000 in
set_option maxHeartbeats 2000000 in
theorem refPick_ok (w : World) (A : Option Addr) (c : Nat) (l : List B) (n : Int) (hA : Sl StrR 1 w (FT w) A l) (hl : l.length ≤ 1000000) : Calls Tryd.prog 32 #[.slice A l.length c, .int .i64 n] w fun e w' => e = .returned (.string ⟨(pick l n).toArray⟩) ∧ w = w' := by
  by_cases h1 : n < 1
  · have hp := Lib.hid (pick_lo l n h1)
    go_enter Tryd.func32, Tryd.ntmps32
    go_wp2
    go_ret
    exact ⟨by rw [hp.out]; rfl, rfl⟩
  · by_cases h2 : (l.length : Int) < n
    · have hp := Lib.hid (pick_hi l n h2)
      go_enter Tryd.func32, Tryd.ntmps32
      go_wp2
      go_ret
      exact ⟨by rw [hp.out]; rfl, rfl⟩
    · obtain ⟨s, hs, hp0⟩ := pick_in l n (by omega) (by omega)
      have hp := Lib.hid hp0
      obtain ⟨m, rfl⟩ : ∃ m : Nat, n = (m : Int) + 1 := ⟨(n - 1).toNat, by omega⟩
      have hm : m < l.length := by omega
      obtain ⟨b, o, x, rfl, -, hx, q0⟩ := hA.str hm
      obtain rfl : s = x := by
        have h3 := hx.out
        rw [show ((m : Int) + 1 - 1).toNat = m by omega, h3] at hs
        cases hs
        rfl
      clear hs hp0 hx h1 h2
      go_enter Tryd.func32, Tryd.ntmps32
      go_wp2
      go_ret
      exact ⟨by rw [hp.out]; rfl, rfl⟩
set_option maxHeartbeats 2000000 in
theorem refOp_ok (w : World) (n : Int) : Calls Tryd.prog 15 #[.int .i64 n] w fun e w' => e = .returned (.string ⟨(opB n).toArray⟩) ∧ Below w.heap.size w w' := by
  have hb : Below w.heap.size w (w.alloc (.cells (strs opNames).toArray 9)) := (Below.refl _ _).alloc (Nat.le_refl _) _
  have hs : Sl StrR 1 (w.alloc (.cells (strs opNames).toArray 9)) (FT (w.alloc (.cells (strs opNames).toArray 9))) (some ⟨w.heap.size, 0, none⟩) opNames := Sl.lit (Bk.new w 9 (strs opNames).toArray) (by decide) (by decide) (strs_fl _ _ _)
  have hp := refPick_ok _ _ 39 opNames n hs (by decide)
  rw [ops_len] at hp
  have Hp := Lib.hid hp
  have Hb := Lib.hid hb
  have hN := Lib.hid (names_lit w)
  clear hp hs hb
  generalize (strs opNames).toArray = cs at *
  go_enter Tryd.func15, Tryd.ntmps15
  go_wp2_with fail
  refine hN.out.mono ?_
  rintro e w' ⟨rfl, rfl⟩
  go_wp2_with fail
  refine Hp.out.mono ?_
  rintro e w' ⟨rfl, rfl⟩
  go_wp2
  go_ret
  exact ⟨rfl, Hb.out⟩
end Go.Proofs.YtkijckccfookeaaDoor
