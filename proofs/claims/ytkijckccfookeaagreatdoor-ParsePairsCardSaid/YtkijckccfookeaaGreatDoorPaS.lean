/- parse: lookup. Printed by gen_pas.py. -/
import Derived.Test.YtkijckccfookeaaGreatDoorM19
import Derived.Test.YtkijckccfookeaaGreatDoorM11
namespace Go.Proofs.YtkijckccfookeaaGreatDoor
open Go.RowKit
attribute [-go_sem] Builtin.append_

theorem kindN_none (L : List B) (t : B) (h : ∀ (j : Nat) (s : B), L[j]? = some s → s ≠ t) : kindN L t = 0 := by
  rw [kindN, if_neg]
  intro hm
  obtain ⟨j, hj⟩ := List.mem_iff_getElem?.1 hm
  exact h j t hj rfl
theorem kindN_at (L : List B) (t : B) (k : Nat) (h : L[k]? = some t) (hl : ∀ (j : Nat) (s : B), j < k → L[j]? = some s → s ≠ t) : kindN L t = (k : Int) + 1 := by
  rw [kindN, if_pos (List.mem_of_getElem? h)]
  have : L.findIdx (· == t) = k := by
    rw [List.findIdx_eq (List.getElem?_eq_some_iff.1 h).1]
    obtain ⟨hk, hg⟩ := List.getElem?_eq_some_iff.1 h
    refine ⟨by simp [hg], fun j hj => ?_⟩
    have := hl j L[j] hj (List.getElem?_eq_getElem (by omega))
    simpa using this
  rw [this]
theorem kinds_len : kindNames.length = 8 := by decide
theorem index_kinds (k : Nat) (s : B) (h : kindNames[k]? = some s) (w : World) : (Instr.index 206 (.agg (strs kindNames).toArray) (.int .i64 (k : Int))).run Tryz.prog w = .ok (.string ⟨s.toArray⟩) w := by
  have hk : k < 8 := by have := (List.getElem?_eq_some_iff.1 h).1; rw [kinds_len] at this; exact this
  have hs := strs_get h
  have hk2 : (k : Int) < 8 := by omega
  have hk3 : (0 : Int) ≤ k := by omega
  simp [Instr.index, go_sem, hk2, hk3, hs]
  omega
theorem size_kinds : (strs kindNames).toArray.size = 8 := by simp [strs_len, kinds_len]
theorem rLookup_no (s : PS) (l : List B) (h : l.length ≠ 1) (h3 : ∀ a, l ≠ [a, sIgnore]) : rLookup s l = .error 22 := by
  unfold rLookup
  split
  · rename_i k r
    rw [if_neg]
    rintro (e | e)
    · subst e; exact h rfl
    · subst e; exact h3 _ rfl
  · rfl
theorem rLookup_yes (s : PS) (t1 : B) (r : List B) (hr : r = [] ∨ r = [sIgnore]) : rLookup s (t1 :: r) = if kindN kindNames t1 = 0 then .error 22 else .ok { s with f := { s.f with lookups := s.f.lookups ++ [⟨kindN kindNames t1, !r.isEmpty, []⟩] } } := by
  show (if r = [] ∨ r = [sIgnore] then _ else _) = _
  rw [if_pos hr]
set_option maxRecDepth 100000 in
set_option maxHeartbeats 4000000 in
theorem readLookupP (w : World) (Bd p gm cm : Nat) (gl : Gl) (s : PS) (rv : Rows) (K : Nat) (A : Option Addr) (n c : Nat) (ws : List P3) (t t1 : B) (hP : PSt w Bd p gm cm gl s rv K) (hL : LnAt w A n ws) (hT : txts ws = t :: [t1]) (hK : K ≤ 10000000000) (hTb : PTabs w) :
    Calls Tryz.prog 87 #[.pointer (some ⟨p, 0, none⟩), .slice A n c] w (StPost w Bd p gm cm gl (K + n) (rLookup s [t1])) := by
  have hn : n = 2 := by rw [← hL.length]; exact txts_cons hT
  have hB := hP.size
  obtain ⟨b, o, rfl, hb, q1, hz1⟩ := hL.word (k := 1) (t := t1) (by rw [hT]; rfl) (d := 3) rfl
  subst hn
  have HP := Lib.hid hP
  have hpb : p < w.heap.size := hP.par.lt
  obtain ⟨A0, c0, hv⟩ := hP.slice (i := 2) (by decide)
  have kp : w.cell? ⟨p, 3, none⟩ = some (rv 2).v := hP.par.cell 3
  rw [hv] at kp
  have hfew := hP.few 2 (by decide)
  have HR := Lib.hid (rLookup_yes s t1 [] (by simp))
  obtain ⟨ty, fz, hbt⟩ := hTb.kinds
  have hix := Lib.hid index_kinds
  have hsz := size_kinds
  have hpost : Hid (∀ k : Nat, (∀ j s, j < k → kindNames[j]? = some s → s ≠ t1) → ((kindNames[k]? = some t1 → kindN kindNames t1 = (k : Int) + 1) ∧ (8 ≤ k → kindN kindNames t1 = 0))) := fun k hl => by
    refine ⟨fun h => kindN_at _ t1 k h hl, fun hk => kindN_none _ t1 fun j s hj => hl j s ?_ hj⟩
    have := (List.getElem?_eq_some_iff.1 hj).1
    rw [kinds_len] at this
    omega
  generalize (strs kindNames).toArray = cs at *
  have Hsz := Lib.hid (show (Tryz.prog.info? 206).map (·.size) = some cs.size by rw [hsz]; kernel_rfl)
  clear hsz hP hL hT hz1 hTb
  go_enter Tryz.func87, Tryz.ntmps87
  go_wp2_with (refine wpList_load_row rfl 206 (.global 3) rfl 3 rfl ty cs fz _ hbt Tryz.underlying206 rfl Hsz.out ?_)
  go_loop [26] (fun i => ∃ k : Nat, k ≤ 8 ∧ i = .int .i64 k ∧ Hid (∀ j s, j < k → kindNames[j]? = some s → s ≠ t1)) (fun i => 8 - (intOf i).toNat)
  case atStart => exact ⟨0, by omega, rfl, fun j s hj => by omega⟩
  case round =>
    obtain ⟨k, hk, rfl, hl⟩ := hrel
    by_cases hlt : k < 8
    · obtain ⟨nm, hs⟩ : ∃ nm, kindNames[k]? = some nm := ⟨_, List.getElem?_eq_getElem (by rw [kinds_len]; exact hlt)⟩
      have hrun := hix.out k nm hs
      by_cases he : nm = t1
      · have HR2 : Hid (rLookup s [t1] = .ok { s with f := { s.f with lookups := s.f.lookups ++ [⟨(k : Int) + 1, false, []⟩] } }) := by
          show _ = _
          have := (hpost.out k hl.out).1 (by rw [hs, he])
          rw [HR.out, this, if_neg (by omega)]
          rfl
        have e1 : (nm == t1) = true := by simp [he]
        have HPW := HP.out
        have hown := HPW.live.own 2 (by decide)
        rw [hv] at hown
        obtain ⟨A5, c5, w9, hrun9, ho9, hg9, hl9⟩ := run_push0 elLook 26 w Bd _ c0 A0 _ #[.int .i64 ((k : Int) + 1), .bool false, .slice none 0 0] rfl hown (by simp [Value.oneCell']) (by omega) HPW.size
        rw [← hv] at hg9 hl9
        have hp9 : Bk w9 p tPar (parCells s rv gm cm) := (HPW.row (i := 2) (by decide) (r := ⟨.slice A5 ((rv 2).n + 1) c5, _, _⟩) hg9 ho9 hl9).1
        have x9 : w9.cell? ⟨p, 3, none⟩ = some (rv 2).v := hp9.cell 3
        have y9 := hp9.frozen 3
        have Hpush := Lib.hid (HPW.newLookup (kd := (k : Int) + 1) (ig := false) hg9 ho9 hl9 ⟨by omega, by omega⟩ (K' := K + 2) (by omega))
        have Hlow := Lib.hid (HPW.push_low (i := 2) (by decide) hg9 3 (.slice A5 ((rv 2).n + 1) c5) HPW.size)
        clear hs he hl hown ho9 hg9 hl9 hp9 HPW
        go_wp2
        go_ret
        obtain ⟨rv', g1, g2⟩ := Hpush.out
        exact StPost.good HR2.out Hlow.out g2 g1
      · have hnx : Hid (∀ j s, j < k + 1 → kindNames[j]? = some s → s ≠ t1) := fun j s' hj hs' => by
          by_cases hjk : j = k
          · subst hjk
            rw [hs] at hs'
            cases hs'
            exact he
          · exact hl.out j s' (by omega) hs'
        have e1 : (nm == t1) = false := by simpa using he
        clear hs he
        go_wp2
        go_round
        case rel => exact ⟨k + 1, by omega, by simp, hnx⟩
        case measure => simp [intOf]; omega
    · have HR2 : Hid (rLookup s [t1] = .error 22) := by
        show _ = _
        rw [HR.out, if_pos ((hpost.out k hl.out).2 (by omega))]
      go_wp2
      go_ret
      exact StPost.bad HR2.out (Below.refl _ _)
set_option maxRecDepth 100000 in
set_option maxHeartbeats 4000000 in
theorem readLookupM (w : World) (Bd p gm cm : Nat) (gl : Gl) (s : PS) (rv : Rows) (K : Nat) (A : Option Addr) (n c : Nat) (ws : List P3) (t t1 : B) (hP : PSt w Bd p gm cm gl s rv K) (hL : LnAt w A n ws) (hT : txts ws = t :: [t1, sIgnore]) (hK : K ≤ 10000000000) (hTb : PTabs w) :
    Calls Tryz.prog 87 #[.pointer (some ⟨p, 0, none⟩), .slice A n c] w (StPost w Bd p gm cm gl (K + n) (rLookup s [t1, sIgnore])) := by
  have hn : n = 3 := by rw [← hL.length]; exact txts_cons hT
  have hB := hP.size
  obtain ⟨b, o, rfl, hb, q1, hz1⟩ := hL.word (k := 1) (t := t1) (by rw [hT]; rfl) (d := 3) rfl
  obtain ⟨b', o', e', -, q2, hz2⟩ := hL.word (k := 2) (t := sIgnore) (by rw [hT]; rfl) (d := 6) rfl
  obtain ⟨rfl, rfl⟩ : b = b' ∧ o = o' := by simpa using e'
  clear e' hz2
  subst hn
  have HP := Lib.hid hP
  have hpb : p < w.heap.size := hP.par.lt
  obtain ⟨A0, c0, hv⟩ := hP.slice (i := 2) (by decide)
  have kp : w.cell? ⟨p, 3, none⟩ = some (rv 2).v := hP.par.cell 3
  rw [hv] at kp
  have hfew := hP.few 2 (by decide)
  have HR := Lib.hid (rLookup_yes s t1 [sIgnore] (by simp))
  obtain ⟨ty, fz, hbt⟩ := hTb.kinds
  have hix := Lib.hid index_kinds
  have hsz := size_kinds
  have hpost : Hid (∀ k : Nat, (∀ j s, j < k → kindNames[j]? = some s → s ≠ t1) → ((kindNames[k]? = some t1 → kindN kindNames t1 = (k : Int) + 1) ∧ (8 ≤ k → kindN kindNames t1 = 0))) := fun k hl => by
    refine ⟨fun h => kindN_at _ t1 k h hl, fun hk => kindN_none _ t1 fun j s hj => hl j s ?_ hj⟩
    have := (List.getElem?_eq_some_iff.1 hj).1
    rw [kinds_len] at this
    omega
  generalize (strs kindNames).toArray = cs at *
  have Hsz := Lib.hid (show (Tryz.prog.info? 206).map (·.size) = some cs.size by rw [hsz]; kernel_rfl)
  clear hsz hP hL hT hz1 hTb
  go_enter Tryz.func87, Tryz.ntmps87
  go_wp2_with (refine wpList_load_row rfl 206 (.global 3) rfl 3 rfl ty cs fz _ hbt Tryz.underlying206 rfl Hsz.out ?_)
  go_loop [26] (fun i => ∃ k : Nat, k ≤ 8 ∧ i = .int .i64 k ∧ Hid (∀ j s, j < k → kindNames[j]? = some s → s ≠ t1)) (fun i => 8 - (intOf i).toNat)
  case atStart => exact ⟨0, by omega, rfl, fun j s hj => by omega⟩
  case round =>
    obtain ⟨k, hk, rfl, hl⟩ := hrel
    by_cases hlt : k < 8
    · obtain ⟨nm, hs⟩ : ∃ nm, kindNames[k]? = some nm := ⟨_, List.getElem?_eq_getElem (by rw [kinds_len]; exact hlt)⟩
      have hrun := hix.out k nm hs
      by_cases he : nm = t1
      · have HR2 : Hid (rLookup s [t1, sIgnore] = .ok { s with f := { s.f with lookups := s.f.lookups ++ [⟨(k : Int) + 1, true, []⟩] } }) := by
          show _ = _
          have := (hpost.out k hl.out).1 (by rw [hs, he])
          rw [HR.out, this, if_neg (by omega)]
          rfl
        have e1 : (nm == t1) = true := by simp [he]
        have HPW := HP.out
        have hown := HPW.live.own 2 (by decide)
        rw [hv] at hown
        obtain ⟨A5, c5, w9, hrun9, ho9, hg9, hl9⟩ := run_push0 elLook 26 w Bd _ c0 A0 _ #[.int .i64 ((k : Int) + 1), .bool true, .slice none 0 0] rfl hown (by simp [Value.oneCell']) (by omega) HPW.size
        rw [← hv] at hg9 hl9
        have hp9 : Bk w9 p tPar (parCells s rv gm cm) := (HPW.row (i := 2) (by decide) (r := ⟨.slice A5 ((rv 2).n + 1) c5, _, _⟩) hg9 ho9 hl9).1
        have x9 : w9.cell? ⟨p, 3, none⟩ = some (rv 2).v := hp9.cell 3
        have y9 := hp9.frozen 3
        have Hpush := Lib.hid (HPW.newLookup (kd := (k : Int) + 1) (ig := true) hg9 ho9 hl9 ⟨by omega, by omega⟩ (K' := K + 3) (by omega))
        have Hlow := Lib.hid (HPW.push_low (i := 2) (by decide) hg9 3 (.slice A5 ((rv 2).n + 1) c5) HPW.size)
        clear hs he hl hown ho9 hg9 hl9 hp9 HPW
        go_wp2
        go_ret
        obtain ⟨rv', g1, g2⟩ := Hpush.out
        exact StPost.good HR2.out Hlow.out g2 g1
      · have hnx : Hid (∀ j s, j < k + 1 → kindNames[j]? = some s → s ≠ t1) := fun j s' hj hs' => by
          by_cases hjk : j = k
          · subst hjk
            rw [hs] at hs'
            cases hs'
            exact he
          · exact hl.out j s' (by omega) hs'
        have e1 : (nm == t1) = false := by simpa using he
        clear hs he
        go_wp2
        go_round
        case rel => exact ⟨k + 1, by omega, by simp, hnx⟩
        case measure => simp [intOf]; omega
    · have HR2 : Hid (rLookup s [t1, sIgnore] = .error 22) := by
        show _ = _
        rw [HR.out, if_pos ((hpost.out k hl.out).2 (by omega))]
      go_wp2
      go_ret
      exact StPost.bad HR2.out (Below.refl _ _)
set_option maxRecDepth 100000 in
set_option maxHeartbeats 4000000 in
theorem readLookupS (w : World) (Bd p gm cm : Nat) (gl : Gl) (s : PS) (rv : Rows) (K : Nat) (A : Option Addr) (n c : Nat) (ws : List P3) (t : B) (l : List B) (hP : PSt w Bd p gm cm gl s rv K) (hL : LnAt w A n ws) (hT : txts ws = t :: l) (h2 : l.length ≠ 1) (h3 : ∀ a, l ≠ [a, sIgnore]) :
    Calls Tryz.prog 87 #[.pointer (some ⟨p, 0, none⟩), .slice A n c] w (StPost w Bd p gm cm gl (K + n) (rLookup s l)) := by
  have hn : n = l.length + 1 := by rw [← hL.length]; exact txts_cons hT
  have HR := Lib.hid (rLookup_no s l h2 h3)
  by_cases h4 : l.length = 2
  · obtain ⟨t1, t3, rfl⟩ : ∃ t1 t3, l = [t1, t3] := by
      match l, h4 with
      | [a, b], _ => exact ⟨a, b, rfl⟩
    obtain ⟨b, o, rfl, hb, q3, hz3⟩ := hL.word (k := 2) (t := t3) (by rw [hT]; rfl) (d := 6) rfl
    have h5 : t3 ≠ sIgnore := fun e => h3 t1 (by rw [e])
    have e3 : (t3 == [105, 103, 110, 111, 114, 101]) = false := by
      rw [beq_eq_false_iff_ne]
      exact h5
    simp only [List.length_cons, List.length_nil] at hn
    subst hn
    clear hP hL hT h2 h3 h4 h5 hz3
    go_enter Tryz.func87, Tryz.ntmps87
    go_wp2
    go_ret
    exact StPost.bad HR.out (Below.refl _ _)
  · have e4 : ((n : Int) == 3) = false := by simp; omega
    have e3 : ((n : Int) == 2) = false := by simp; omega
    have e5 : ((n : Int) != 2) = true := by simp; omega
    clear hP hL hT h2 h3 h4 hn
    go_enter Tryz.func87, Tryz.ntmps87
    go_wp2
    go_ret
    exact StPost.bad HR.out (Below.refl _ _)
theorem readLookup_ok (w : World) (Bd p gm cm : Nat) (gl : Gl) (s : PS) (rv : Rows) (K : Nat) (A : Option Addr) (n c : Nat) (ws : List P3) (t : B) (l : List B) (hP : PSt w Bd p gm cm gl s rv K) (hL : LnAt w A n ws) (hT : txts ws = t :: l) (hK : K ≤ 10000000000) (hTb : PTabs w) :
    Calls Tryz.prog 87 #[.pointer (some ⟨p, 0, none⟩), .slice A n c] w (StPost w Bd p gm cm gl (K + n) (rLookup s l)) := by
  by_cases h2 : l.length = 1
  · obtain ⟨t1, rfl⟩ : ∃ t1, l = [t1] := by
      match l, h2 with
      | [a], _ => exact ⟨a, rfl⟩
    exact readLookupP w Bd p gm cm gl s rv K A n c ws t t1 hP hL hT hK hTb
  · by_cases h3 : ∃ a, l = [a, sIgnore]
    · obtain ⟨t1, rfl⟩ := h3
      exact readLookupM w Bd p gm cm gl s rv K A n c ws t t1 hP hL hT hK hTb
    · exact readLookupS w Bd p gm cm gl s rv K A n c ws t l hP hL hT h2 (fun a e => h3 ⟨a, e⟩)
end Go.Proofs.YtkijckccfookeaaGreatDoor
