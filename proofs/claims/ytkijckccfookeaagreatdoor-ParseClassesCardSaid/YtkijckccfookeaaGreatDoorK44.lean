/- fleuronref06: Of, Union. -/
import Derived.Test.YtkijckccfookeaaGreatDoorK43
import Derived.Test.YtkijckccfookeaaGreatDoorK04
import Derived.Test.YtkijckccfookeaaGreatDoorK09
import Derived.Test.YtkijckccfookeaaGreatDoorK00
import Derived.Test.YtkijckccfookeaaGreatDoorK06
import Derived.BigRegion
import Derived.Test.YtkijckccfookeaaGreatDoorProg
import Derived.BigQuiet
namespace Go.Proofs.YtkijckccfookeaaGreatDoor
open Go.RowKit
attribute [-go_sem] Builtin.append_

/-- a part of a row -/
theorem Rd.cutI {w : World} {Bd n : Nat} {A : Option Addr} {l : List Int} (h : Rd w Bd A n 1 (cIs l)) (k : Nat) (hk : k ≤ n) : Rd w Bd A k 1 (cIs (l.take k)) := by
  have hl := h.lenI
  refine ⟨by simp [cIs]; omega, fun h0 => ?_⟩
  obtain ⟨b, o, e, hb, hc⟩ := h.2 (by omega)
  refine ⟨b, o, e, hb, fun j u hu => hc j u ?_⟩
  unfold cIs at hu ⊢
  rw [List.map_take, List.getElem?_take] at hu
  split at hu
  · exact hu
  · cases hu
theorem Rd.dropI {w : World} {Bd n c : Nat} {A : Option Addr} {l : List Int} (h : Rd w Bd A n 1 (cIs l)) (k : Nat) (hk : k ≤ n) (hc : n ≤ c) : Rd w Bd (if c = k then A else A.map (·.add (k * 1))) (n - k) 1 (cIs (l.drop k)) := by
  have hl := h.lenI
  refine ⟨by simp [cIs]; omega, fun h0 => ?_⟩
  obtain ⟨b, o, e, hb, hcl⟩ := h.2 (by omega)
  rw [if_neg (by omega), e]
  refine ⟨b, o + k, ?_, hb, fun j u hu => ?_⟩
  · rw [Option.map_some, addr_add, Nat.mul_one]
  · unfold cIs at hu hcl
    rw [List.map_drop, List.getElem?_drop] at hu
    rw [Nat.add_assoc]
    exact hcl _ u hu
theorem sizeI (w : World) : (sizeOf 3).run Tryz.prog w = .ok 1 w := by kernel_rfl
/-- 'out[k:]' -/
theorem run_from (A : Option Addr) (n c k : Nat) (hk : k ≤ n) (w : World) :
    (Instr.slice 22 (.slice A n c) (some (.int .i64 k)) none none).run Tryz.prog w = .ok (.slice (if c = k then A else A.map (·.add (k * 1))) (n - k) (c - k)) w := by
  simp [Instr.slice, Instr.sliceBounds, Instr.sliceBound, asIntOf, run_underlying Tryz.underlying22, sizeI, Result.andThen, hk]
set_option maxRecDepth 100000 in
set_option maxHeartbeats 4000000 in
theorem of_ok (w : World) (A : Option Addr) (n c : Nat) (l : List Int) (h : Rd w w.heap.size A n 1 (cIs l)) (hn : n ≤ 1000000) :
    Calls Tryz.prog 31 #[.slice A n c] w fun e w' => (∃ A' c', e = .returned (.slice A' (setOf l).length c') ∧ Rd w' w'.heap.size A' (setOf l).length 1 (cIs (setOf l))) ∧ Below w.heap.size w w' := by
  have HL := Lib.hid h.lenI
  have HR := Lib.hid h
  clear h
  go_enter Tryz.func31, Tryz.ntmps31
  go_wp2_with fail
  go_loopw [3, 4] (fun o i wr => ∃ (k : Nat) (A1 : Option Addr) (c1 : Nat), k ≤ n ∧ i = .int .i64 k ∧ o = .slice A1 (ofL (l.take k)).length c1 ∧ wr.ownsRow w.heap.size tInt 1 (.slice A1 (ofL (l.take k)).length c1) (ofL (l.take k)).length (cIs (ofL (l.take k))) ∧ Below w.heap.size w wr) (fun _ i _ => n - (intOf i).toNat)
  case atStart => exact ⟨0, some ⟨w.heap.size, 0, none⟩, 0, Nat.zero_le _, rfl, rfl, own_new w w.heap.size tInt 1 0 #[] (Nat.le_refl _) rfl (by omega), (Below.refl _ _).alloc (Nat.le_refl _) _⟩
  case round =>
    obtain ⟨k, A1, c1, hk, rfl, rfl, ho, hb⟩ := hrel
    by_cases hlt : k < n
    · obtain ⟨b, o, x, rfl, hx, q⟩ := ints_at HR.out hb hlt
      have hsn : Hid (ofL (l.take (k + 1)) = insS x (ofL (l.take k))) := by
        show _ = _
        rw [List.take_add_one, hx.out]
        exact ofL_snoc _ _
      have hlen : (ofL (l.take k)).length ≤ n := by
        have := ofL_len (l.take k)
        rw [List.length_take] at this
        omega
      have HB := Lib.hid hb
      have HO := Lib.hid ho
      obtain ⟨A1', c1', e1, hr1⟩ := Rd.of_own ho
      simp only [Value.slice.injEq, true_and] at e1
      obtain ⟨rfl, rfl⟩ := e1
      have hcap : (ofL (l.take k)).length ≤ c1 := by
        rcases ho.2 with ⟨e, h0⟩ | ⟨g, cap, cur, e, _, _, hcp, _⟩
        · omega
        · injection e with e2 e3 e4
          omega
      have HR1 := Lib.hid hr1
      clear hx hb ho hr1
      generalize ofL (l.take k) = s at *
      have hsz := HB.out.size
      go_wp2_with fail
      go_loopw [5] (fun a w2 => ∃ (j nd : Nat), j ≤ s.length ∧ a = .int .i64 j ∧ Hid (∀ i y, i < j → s[i]? = some y → y < x) ∧ w2 = wr.drewN nd) (fun a _ => s.length - (intOf a).toNat)
      case atStart => exact ⟨0, 0, Nat.zero_le _, rfl, fun i y h => absurd h (by omega), rfl⟩
      case round =>
        obtain ⟨j, nd, hj, rfl, hle, rfl⟩ := hrel
        by_cases hjl : j < s.length
        · obtain ⟨b1, o1, y, rfl, hbb, hy, q1⟩ := HR1.out.atI hjl
          by_cases hyx : y < x
          · have hle2 : Hid (∀ i z, i < j + 1 → s[i]? = some z → z < x) := fun i z hi hz => by
              by_cases hij : i < j
              · exact hle.out i z hij hz
              · have : i = j := by omega
                subst this
                rw [hy.out] at hz
                injection hz with hz
                omega
            go_wp2_with fail
            go_quiet (fail)
            go_wp2_with fail
            go_roundw
            case rel => exact ⟨j + 1, _, by omega, by simp, hle2, rfl⟩
            case measure => simp [intOf]; omega
          · have hat := ins_at x s j (by omega) hle.out
            by_cases hex : y = x
            · subst hex
              have HS : Hid (ofL (l.take (k + 1)) = s) := by show _ = _; rw [hsn.out, hat.1 hy.out]
              clear hat
              go_wp2_with fail
              go_quiet (fail)
              go_wp2_with fail
              go_quiet (fail)
              go_wp2_with fail
              exact ⟨⟨k + 1, some ⟨b1, o1, none⟩, c1, by omega, by simp, by rw [HS.out], by rw [HS.out]; exact own_drewN HO.out _, below_drewN HB.out _⟩, by simp [intOf]; omega⟩
            · have HS : Hid (ofL (l.take (k + 1)) = s.take j ++ x :: s.drop j) := by
                show _ = _
                rw [hsn.out, hat.2 (fun z hz => by rw [hy.out] at hz; injection hz with hz; omega)]
              have e2 : (y == x) = false := by simpa using hex
              clear hat
              go_wp2_with fail
              go_quiet (fail)
              go_wp2_with fail
              go_quiet (fail)
              go_wp2_with fail
              generalize hW : ((wr.drewN nd).drewN _).drewN _ = W
              have HBW : Hid (Below w.heap.size w W) := by rw [← hW]; exact Lib.hid (below_drewN (below_drewN (below_drewN HB.out _) _) _)
              have qW : W.cell? ⟨b, o + k, none⟩ = some (.int .i64 x) := by rw [← hW]; exact q
              obtain ⟨A2, hsl, hr2⟩ : ∃ A2, (∀ w', (Instr.slice 22 (.slice (some ⟨b1, o1, none⟩) s.length c1) (some (.int .i64 j)) none none).run Tryz.prog w' = .ok (.slice A2 (s.length - j) (c1 - j)) w') ∧ Rd W W.heap.size A2 (s.length - j) 1 (cIs (s.drop j)) := ⟨_, fun w' => run_from (some ⟨b1, o1, none⟩) s.length c1 j hj w', by rw [← hW]; exact HR1.out.dropI j hj hcap⟩
              have HRT : Hid (Rd W W.heap.size (some ⟨b1, o1, none⟩) j 1 (cIs (s.take j))) := by rw [← hW]; exact HR1.out.cutI j hj
              have hzW := HBW.out.size
              obtain ⟨A3, c3, w3, hrun3, ho3, hg3, hl3⟩ := run_app elInt 22 (W.alloc (.cells #[.int .i64 x] tInt)).drew w.heap.size 1 1 (some ⟨W.heap.size, 0, none⟩) [.int .i64 x] (own_new W w.heap.size tInt 1 1 #[.int .i64 x] hzW rfl (by omega)).drew W.heap.size A2 (s.length - j) (c1 - j) (cIs (s.drop j)) (hr2.alloc (Nat.le_refl _) _).drew (oneI _) (by omega) (by simp; omega)
              have HO3 := Lib.hid ho3
              have HG3 := Lib.hid hg3
              have hrt3 : Rd w3 W.heap.size (some ⟨b1, o1, none⟩) j 1 (cIs (s.take j)) := ((HRT.out.alloc (Nat.le_refl _) _).drew).grown hg3 (by simp) (fun g e => by simp [Value.ownBlock] at e; omega)
              have hz3 : W.heap.size + 1 ≤ w3.heap.size := by have := hg3.size; simpa using this
              have HB3 : Hid (Below w.heap.size w w3) := Lib.hid (((HBW.out.alloc hzW _).drew).grown hg3 (by simp; omega) (fun g e => by simp [Value.ownBlock] at e; omega))
              have hr3 : Rd w3 w3.heap.size A3 (1 + (s.length - j)) 1 ([.int .i64 x] ++ cIs (s.drop j)) := by
                obtain ⟨A', c', e1, h1⟩ := Rd.of_own ho3
                simp only [Value.slice.injEq, true_and] at e1
                obtain ⟨rfl, rfl⟩ := e1
                exact h1
              have HT3 := Lib.hid hrt3
              have HR3 := Lib.hid hr3
              have hone : ∀ u ∈ [Value.int .i64 x] ++ cIs (s.drop j), u.oneCell' = true := by
                intro u hu
                rw [List.mem_append, List.mem_singleton] at hu
                rcases hu with rfl | hu
                · rfl
                · exact oneI _ u hu
              have HN := Lib.hid hone
              have tk1 : True := trivial
              have tk2 : True := trivial
              clear hr2 ho3 hg3 hl3 hW HO HB HR1 q hrt3 hr3 hone HO3 HG3 HRT
              go_region
              all_goals
                go_wp2_with (first
                  | (at_builtin; have _t := tk1; refine app_l elInt rfl (.tmp 55) (.tmp 58) rfl _ w.heap.size 0 0 (some ⟨w3.heap.size, 0, none⟩) [] w3.heap.size (some ⟨b1, o1, none⟩) j c1 (cIs (s.take j)) rfl rfl (own_new w3 w.heap.size tInt 1 0 #[] (by omega) rfl (by omega)) ((HT3.out.mono (by omega)).alloc (Nat.le_refl _) _) (oneI _) (by omega) (by simp; omega) ?_; intro A4 c4 w4; rw [Nat.zero_add, List.nil_append]; intro h4 g4 l4; have hr4 := (HR3.out.alloc (Nat.le_refl _) (.cells #[] tInt)).grown g4 (by simp) (fun g e => by simp [Value.ownBlock] at e; omega); have HB4 : Hid (Below w.heap.size w w4) := Lib.hid ((HB3.out.alloc (by omega) _).grown g4 (by simp; omega) (fun g e => by simp [Value.ownBlock] at e; omega)); have hz4 := HB4.out.size; have hz5 : w3.heap.size ≤ w4.heap.size := (by have := g4.size; simp at this; omega); clear g4 l4 _t tk1)
                  | (at_builtin; have _t := tk2; refine app_l elInt rfl (.tmp 59) (.tmp 60) rfl w4 w.heap.size j c4 A4 (cIs (s.take j)) w3.heap.size A3 (1 + (s.length - j)) c3 ([.int .i64 x] ++ cIs (s.drop j)) rfl rfl h4 hr4 HN.out (by omega) (by omega) ?_; intro A5 c5 w5 h5 g5 l5; have HB5 : Hid (Below w.heap.size w w5) := Lib.hid (HB4.out.grown g5 (by omega) (fun g e => (h4.lt g e).1)); clear g5 l5 _t tk2))
                have el : Hid ((ofL (l.take (k + 1))).length = j + (1 + (s.length - j))) := by
                  show _ = _
                  rw [HS.out, List.length_append, List.length_cons, List.length_take, List.length_drop, Nat.min_eq_left hj]
                  omega
                have ec : Hid (cIs (ofL (l.take (k + 1))) = cIs (s.take j) ++ ([.int .i64 x] ++ cIs (s.drop j))) := by
                  show _ = _
                  rw [HS.out]
                  simp [cIs, cI]
                exact ⟨⟨k + 1, A5, c5, by omega, by simp, by rw [el.out], by rw [el.out, ec.out]; exact h5, HB5.out⟩, by simp [intOf]; omega⟩
        · have hjs : j = s.length := by omega
          have hat := ins_at x s j hj hle.out
          have HS : Hid (ofL (l.take (k + 1)) = s.take j ++ x :: s.drop j) := by
            show _ = _
            rw [hsn.out, hat.2 (fun z hz => by rw [List.getElem?_eq_none (by omega)] at hz; cases hz)]
          clear hat hjs
          go_wp2_with fail
          go_quiet (fail)
          go_wp2_with fail
          go_quiet (fail)
          go_wp2_with fail
          generalize hW : ((wr.drewN nd).drewN _).drewN _ = W
          have HBW : Hid (Below w.heap.size w W) := by rw [← hW]; exact Lib.hid (below_drewN (below_drewN (below_drewN HB.out _) _) _)
          have qW : W.cell? ⟨b, o + k, none⟩ = some (.int .i64 x) := by rw [← hW]; exact q
          obtain ⟨A2, hsl, hr2⟩ : ∃ A2, (∀ w', (Instr.slice 22 (.slice A1 s.length c1) (some (.int .i64 j)) none none).run Tryz.prog w' = .ok (.slice A2 (s.length - j) (c1 - j)) w') ∧ Rd W W.heap.size A2 (s.length - j) 1 (cIs (s.drop j)) := ⟨_, fun w' => run_from A1 s.length c1 j hj w', by rw [← hW]; exact HR1.out.dropI j hj hcap⟩
          have HRT : Hid (Rd W W.heap.size A1 j 1 (cIs (s.take j))) := by rw [← hW]; exact HR1.out.cutI j hj
          have hzW := HBW.out.size
          obtain ⟨A3, c3, w3, hrun3, ho3, hg3, hl3⟩ := run_app elInt 22 (W.alloc (.cells #[.int .i64 x] tInt)).drew w.heap.size 1 1 (some ⟨W.heap.size, 0, none⟩) [.int .i64 x] (own_new W w.heap.size tInt 1 1 #[.int .i64 x] hzW rfl (by omega)).drew W.heap.size A2 (s.length - j) (c1 - j) (cIs (s.drop j)) (hr2.alloc (Nat.le_refl _) _).drew (oneI _) (by omega) (by simp; omega)
          have HO3 := Lib.hid ho3
          have HG3 := Lib.hid hg3
          have hrt3 : Rd w3 W.heap.size A1 j 1 (cIs (s.take j)) := ((HRT.out.alloc (Nat.le_refl _) _).drew).grown hg3 (by simp) (fun g e => by simp [Value.ownBlock] at e; omega)
          have hz3 : W.heap.size + 1 ≤ w3.heap.size := by have := hg3.size; simpa using this
          have HB3 : Hid (Below w.heap.size w w3) := Lib.hid (((HBW.out.alloc hzW _).drew).grown hg3 (by simp; omega) (fun g e => by simp [Value.ownBlock] at e; omega))
          have hr3 : Rd w3 w3.heap.size A3 (1 + (s.length - j)) 1 ([.int .i64 x] ++ cIs (s.drop j)) := by
            obtain ⟨A', c', e1, h1⟩ := Rd.of_own ho3
            simp only [Value.slice.injEq, true_and] at e1
            obtain ⟨rfl, rfl⟩ := e1
            exact h1
          have HT3 := Lib.hid hrt3
          have HR3 := Lib.hid hr3
          have hone : ∀ u ∈ [Value.int .i64 x] ++ cIs (s.drop j), u.oneCell' = true := by
            intro u hu
            rw [List.mem_append, List.mem_singleton] at hu
            rcases hu with rfl | hu
            · rfl
            · exact oneI _ u hu
          have HN := Lib.hid hone
          have tk1 : True := trivial
          have tk2 : True := trivial
          clear hr2 ho3 hg3 hl3 hW HO HB HR1 q hrt3 hr3 hone HO3 HG3 HRT
          go_region
          all_goals
            go_wp2_with (first
              | (at_builtin; have _t := tk1; refine app_l elInt rfl (.tmp 55) (.tmp 58) rfl _ w.heap.size 0 0 (some ⟨w3.heap.size, 0, none⟩) [] w3.heap.size A1 j c1 (cIs (s.take j)) rfl rfl (own_new w3 w.heap.size tInt 1 0 #[] (by omega) rfl (by omega)) ((HT3.out.mono (by omega)).alloc (Nat.le_refl _) _) (oneI _) (by omega) (by simp; omega) ?_; intro A4 c4 w4; rw [Nat.zero_add, List.nil_append]; intro h4 g4 l4; have hr4 := (HR3.out.alloc (Nat.le_refl _) (.cells #[] tInt)).grown g4 (by simp) (fun g e => by simp [Value.ownBlock] at e; omega); have HB4 : Hid (Below w.heap.size w w4) := Lib.hid ((HB3.out.alloc (by omega) _).grown g4 (by simp; omega) (fun g e => by simp [Value.ownBlock] at e; omega)); have hz4 := HB4.out.size; have hz5 : w3.heap.size ≤ w4.heap.size := (by have := g4.size; simp at this; omega); clear g4 l4 _t tk1)
              | (at_builtin; have _t := tk2; refine app_l elInt rfl (.tmp 59) (.tmp 60) rfl w4 w.heap.size j c4 A4 (cIs (s.take j)) w3.heap.size A3 (1 + (s.length - j)) c3 ([.int .i64 x] ++ cIs (s.drop j)) rfl rfl h4 hr4 HN.out (by omega) (by omega) ?_; intro A5 c5 w5 h5 g5 l5; have HB5 : Hid (Below w.heap.size w w5) := Lib.hid (HB4.out.grown g5 (by omega) (fun g e => (h4.lt g e).1)); clear g5 l5 _t tk2))
            have el : Hid ((ofL (l.take (k + 1))).length = j + (1 + (s.length - j))) := by
              show _ = _
              rw [HS.out, List.length_append, List.length_cons, List.length_take, List.length_drop, Nat.min_eq_left hj]
              omega
            have ec : Hid (cIs (ofL (l.take (k + 1))) = cIs (s.take j) ++ ([.int .i64 x] ++ cIs (s.drop j))) := by
              show _ = _
              rw [HS.out]
              simp [cIs, cI]
            exact ⟨⟨k + 1, A5, c5, by omega, by simp, by rw [el.out], by rw [el.out, ec.out]; exact h5, HB5.out⟩, by simp [intOf]; omega⟩
    · obtain rfl : k = n := by omega
      rw [List.take_of_length_le (by rw [HL.out]; exact Nat.le_refl _), ofL_set] at ho
      have HS : Hid (ofL (l.take k) = setOf l) := by show _ = _; rw [List.take_of_length_le (by rw [HL.out]; exact Nat.le_refl _), ofL_set]
      have HO := Lib.hid ho
      have HB := Lib.hid hb
      rw [HS.out]
      clear ho hb
      go_wp2_with fail
      go_ret
      obtain ⟨A', c', e1, hr1⟩ := Rd.of_own HO.out
      simp only [Value.slice.injEq, true_and] at e1
      obtain ⟨rfl, rfl⟩ := e1
      exact ⟨⟨A1, c1, rfl, hr1⟩, HB.out⟩
set_option maxRecDepth 100000 in
set_option maxHeartbeats 4000000 in
theorem union_ok (w : World) (A1 A2 : Option Addr) (n1 n2 c1 c2 : Nat) (l1 l2 : List Int) (h1 : Rd w w.heap.size A1 n1 1 (cIs l1)) (h2 : Rd w w.heap.size A2 n2 1 (cIs l2)) (k1 : n1 ≤ 100000) (k2 : n2 ≤ 100000) :
    Calls Tryz.prog 33 #[.slice A1 n1 c1, .slice A2 n2 c2] w fun e w' => (∃ A' c', e = .returned (.slice A' (setOf (l1 ++ l2)).length c') ∧ Rd w' w'.heap.size A' (setOf (l1 ++ l2)).length 1 (cIs (setOf (l1 ++ l2)))) ∧ Below w.heap.size w w' := by
  have HR1 := Lib.hid h1
  have HR2 := Lib.hid h2
  clear h1 h2
  have tk1 : True := trivial
  have tk2 : True := trivial
  obtain ⟨s, hs⟩ : ∃ s, setOf (l1 ++ l2) = s := ⟨_, rfl⟩
  rw [hs]
  have HS := Lib.hid hs
  clear hs
  go_enter Tryz.func33, Tryz.ntmps33
  go_wp2_with (first
    | (at_builtin; have _t := tk1; refine app_l elInt rfl (.tmp 5) (.tmp 6) rfl _ w.heap.size 0 0 (some ⟨w.heap.size, 0, none⟩) [] w.heap.size A1 n1 c1 (cIs l1) rfl rfl (own_new w w.heap.size tInt 1 0 #[] (Nat.le_refl _) rfl (by omega)) (HR1.out.alloc (Nat.le_refl _) _) (oneI _) (by omega) (by simp) ?_; intro A4 c4 w4; rw [Nat.zero_add, List.nil_append]; intro h4 g4 l4; have hr4 := (HR2.out.alloc (Nat.le_refl _) (.cells #[] tInt)).grown g4 (by simp) (fun g e => by simp [Value.ownBlock] at e; omega); have HB4 : Hid (Below w.heap.size w w4) := Lib.hid (((Below.refl _ _).alloc (Nat.le_refl _) _).grown g4 (by simp) (fun g e => by simp [Value.ownBlock] at e; omega)); have hz4 := HB4.out.size; clear g4 l4 _t tk1)
    | (at_builtin; have _t := tk2; refine app_l elInt rfl (.tmp 7) (.tmp 8) rfl w4 w.heap.size n1 c4 A4 (cIs l1) w.heap.size A2 n2 c2 (cIs l2) rfl rfl h4 hr4 (oneI _) (by omega) (by omega) ?_; intro A5 c5 w5 h5 g5 l5; have HB5 : Hid (Below w.heap.size w w5) := Lib.hid (HB4.out.grown g5 (by omega) (fun g e => (h4.lt g e).1)); clear g5 l5 _t tk2))
  have hr5 : Rd w5 w5.heap.size A5 (n1 + n2) 1 (cIs (l1 ++ l2)) := by
    obtain ⟨A', c', e1, h1⟩ := Rd.of_own h5
    simp only [Value.slice.injEq, true_and] at e1
    obtain ⟨rfl, rfl⟩ := e1
    simpa [cIs] using h1
  have hof := of_ok w5 A5 (n1 + n2) c5 (l1 ++ l2) hr5 (by omega)
  rw [HS.out] at hof
  refine hof.mono ?_
  rintro e w6 ⟨⟨A', c', rfl, hr6⟩, hb6⟩
  have HB6 : Hid (Below w.heap.size w w6) := Lib.hid (HB5.out.trans (hb6.mono HB5.out.size))
  have HR6 := Lib.hid hr6
  clear hr5 hr6 hb6 h5 h4 hr4 hof
  go_wp2_with fail
  go_ret
  exact ⟨⟨A', c', rfl, HR6.out⟩, HB6.out⟩
end Go.Proofs.YtkijckccfookeaaGreatDoor
/- Digits of numbers, as ref05's Decimal and ref07's digits make them. -/
namespace Go.Proofs.YtkijckccfookeaaGreatDoor
open Go.RowKit

theorem conv1 (w : World) (b : UInt8) : (convert 68 9 (.slice (some ⟨w.heap.size, 0, none⟩) 1 1)).run Tryz.prog (w.alloc (.cells #[.int .u8 b.toNat] 5)) = .ok (.string ⟨#[b]⟩) (w.alloc (.cells #[.int .u8 b.toNat] 5)) :=
  run_convert_bytes_back (w.alloc (.cells #[.int .u8 b.toNat] 5)) 68 9 5 ⟨w.heap.size, 0, none⟩ 1 [b] Tryz.underlying68 Tryz.underlying5 Tryz.underlying9 (fun j hj => by
    obtain rfl : j = 0 := by simpa using hj
    rw [addr_add]
    exact (Bk.new w 5 #[.int .u8 b.toNat]).cell 0)
theorem app_list (a b : B) : (ByteArray.mk a.toArray) ++ ⟨b.toArray⟩ = ⟨(a ++ b).toArray⟩ := by
  apply ByteArray.ext
  rw [ByteArray.data_append]
  apply Array.ext'
  simp
def dgB (n : Nat) : UInt8 := UInt8.ofNat (48 + n % 10)
theorem dgB_nat (n : Nat) : (dgB n).toNat = 48 + n % 10 := by
  rw [dgB, UInt8.toNat_ofNat']
  omega
def decB (u : Nat) : B := if _h : u < 10 then [dgB u] else decB (u / 10) ++ [dgB u]
termination_by u
decreasing_by omega
theorem conv2 (w : World) (n : Int) (u : Nat) (h : n = 48 + (u : Int) % 10) : (convert 68 9 (.slice (some ⟨w.heap.size, 0, none⟩) 1 1)).run Tryz.prog (w.alloc (.cells #[.int .u8 n] 5)) = .ok (.string ⟨#[dgB u]⟩) (w.alloc (.cells #[.int .u8 n] 5)) := by
  have := conv1 w (dgB u)
  rw [dgB_nat] at this
  rw [h]
  have e : (48 + (u : Int) % 10) = ((48 + u % 10 : Nat) : Int) := by omega
  rw [e]
  exact this
/-- the digits of a number; none of 0 -/
def decT (q : Nat) : B := if q = 0 then [] else decB q
theorem decT_pos (q : Nat) (h : 0 < q) : decT q = decT (q / 10) ++ [dgB q] := by
  rw [decT, if_neg (by omega), decB]
  split
  · rw [decT, if_pos (by omega)]; rfl
  · rw [decT, if_neg (by omega)]
theorem decB_split (U : Nat) : decB U = decT (U / 10) ++ [dgB U] := by
  rw [decB]
  split
  · rw [decT, if_pos (by omega)]; rfl
  · rw [decT, if_neg (by omega)]
theorem decB_len (k : Nat) : ∀ u, u < 10 ^ (k + 1) → (decB u).length ≤ k + 1 := by
  induction k with
  | zero =>
    intro u hu
    rw [decB, dif_pos (by simpa using hu)]
    simp
  | succ k ih =>
    intro u hu
    rw [decB]
    split
    · simp
    · have := ih (u / 10) (by rw [pow_step] at hu; omega)
      rw [List.length_append]
      simp
      omega
theorem decB_dec (u : Nat) : decB u = Lib.decDigits u := by
  induction u using Nat.strongRecOn with
  | _ u ih =>
    rw [decB, Lib.decDigits]
    split
    · rename_i h
      rw [dgB, Nat.mod_eq_of_lt h]
    · rw [ih (u / 10) (by omega)]
      rfl
end Go.Proofs.YtkijckccfookeaaGreatDoor
/- The contract of fleuronref05.Decimal. Printed out of wip/w. -/
namespace Go.Proofs.YtkijckccfookeaaGreatDoor
open Go.RowKit

theorem decB_nine (u : Nat) (h : u ≤ 999999999) : (decB u).length ≤ 9 := decB_len 8 u (by show u < 1000000000; omega)
theorem uwrap (U : Nat) (h0 : 1 ≤ U) (hU : U ≤ 999999999) : IntKind.u64.wrap (-IntKind.u64.wrap (-(U : Int))) = U := by
  simp [IntKind.wrap, IntKind.signed, IntKind.bits]
  omega
set_option maxRecDepth 100000 in
set_option maxHeartbeats 4000000 in
theorem decimal_pos (w : World) (U : Nat) (hU : U ≤ 999999999) : Calls Tryz.prog 28 #[.int .i64 U] w fun e w' => e = .returned (.string ⟨(decB U).toArray⟩) ∧ Below w.heap.size w w' := by
  have cv := fun w => conv2 w (48 + (U : Int) % 10) U rfl
  have hn0 : decide ((U : Int) < 0) = false := by simp
  go_enter Tryz.func28, Tryz.ntmps28
  go_wp2
  go_loopw [4, 5] (fun u o wr => ∃ (q : Nat) (out : B), u = .int .u64 q ∧ o = .string ⟨out.toArray⟩ ∧ Hid (decB U = decT q ++ out) ∧ q ≤ 999999999 ∧ Below w.heap.size w wr) (fun u _ _ => (intOf u).toNat)
  case atStart => exact ⟨U / 10, [dgB U], by simp, rfl, decB_split U, by omega, (Below.refl _ _).alloc (Nat.le_refl _) _⟩
  case round =>
    obtain ⟨q, out, rfl, rfl, hdec, hq, hbl⟩ := hrel
    have hol : out.length ≤ 9 := by
      have h1 := congrArg List.length hdec.out
      have h2 := decB_nine U hU
      rw [List.length_append] at h1
      omega
    clear cv
    by_cases h0 : 0 < q
    · have cv := fun w => conv2 w (48 + (q : Int) % 10) q rfl
      have hap : (ByteArray.mk #[dgB q]) ++ ⟨out.toArray⟩ = ⟨(dgB q :: out).toArray⟩ := app_list [dgB q] out
      have hdec2 : Hid (decB U = decT (q / 10) ++ (dgB q :: out)) := by
        show _ = _
        rw [hdec.out, decT_pos q h0]
        simp
      go_wp2
      go_roundw
      case rel => exact ⟨q / 10, dgB q :: out, by simp, rfl, hdec2, by omega, hbl.alloc hbl.size _⟩
      case measure => simp [intOf]; omega
    · obtain rfl : q = 0 := by omega
      have hz : Hid (decB U = out) := by
        show _ = _
        rw [hdec.out, decT, if_pos rfl, List.nil_append]
      have hap : (ByteArray.mk #[]) ++ ⟨out.toArray⟩ = ⟨out.toArray⟩ := app_list [] out
      go_wp2
      go_ret
      exact ⟨by rw [hz.out]; rfl, hbl⟩
set_option maxRecDepth 100000 in
set_option maxHeartbeats 4000000 in
theorem decimal_neg (w : World) (U : Nat) (h0 : 1 ≤ U) (hU : U ≤ 999999999) : Calls Tryz.prog 28 #[.int .i64 (-(U : Int))] w fun e w' => e = .returned (.string ⟨(45 :: decB U).toArray⟩) ∧ Below w.heap.size w w' := by
  have cv := fun w => conv2 w (48 + (U : Int) % 10) U rfl
  have hwr := uwrap U h0 hU
  have hn0 : decide (0 < U) = true := by simp; omega
  go_enter Tryz.func28, Tryz.ntmps28
  go_wp2
  clear hwr
  go_loopw [4, 5] (fun u o wr => ∃ (q : Nat) (out : B), u = .int .u64 q ∧ o = .string ⟨out.toArray⟩ ∧ Hid (decB U = decT q ++ out) ∧ q ≤ 999999999 ∧ Below w.heap.size w wr) (fun u _ _ => (intOf u).toNat)
  case atStart => exact ⟨U / 10, [dgB U], by simp, rfl, decB_split U, by omega, (Below.refl _ _).alloc (Nat.le_refl _) _⟩
  case round =>
    obtain ⟨q, out, rfl, rfl, hdec, hq, hbl⟩ := hrel
    have hol : out.length ≤ 9 := by
      have h1 := congrArg List.length hdec.out
      have h2 := decB_nine U hU
      rw [List.length_append] at h1
      omega
    clear cv
    by_cases h0 : 0 < q
    · have cv := fun w => conv2 w (48 + (q : Int) % 10) q rfl
      have hap : (ByteArray.mk #[dgB q]) ++ ⟨out.toArray⟩ = ⟨(dgB q :: out).toArray⟩ := app_list [dgB q] out
      have hdec2 : Hid (decB U = decT (q / 10) ++ (dgB q :: out)) := by
        show _ = _
        rw [hdec.out, decT_pos q h0]
        simp
      go_wp2
      go_roundw
      case rel => exact ⟨q / 10, dgB q :: out, by simp, rfl, hdec2, by omega, hbl.alloc hbl.size _⟩
      case measure => simp [intOf]; omega
    · obtain rfl : q = 0 := by omega
      have hz : Hid (decB U = out) := by
        show _ = _
        rw [hdec.out, decT, if_pos rfl, List.nil_append]
      have hap : (ByteArray.mk #[45]) ++ ⟨out.toArray⟩ = ⟨(45 :: out).toArray⟩ := app_list [45] out
      go_wp2
      go_ret
      exact ⟨by rw [hz.out]; rfl, hbl⟩
theorem decimal_ok (w : World) (n : Int) (h : N9 n) : Calls Tryz.prog 28 #[.int .i64 n] w fun e w' => e = .returned (.string ⟨(itB n).toArray⟩) ∧ Below w.heap.size w w' := by
  unfold N9 at h
  by_cases h0 : n < 0
  · have e1 : n = -((n.natAbs : Nat) : Int) := by omega
    have e2 : itB n = 45 :: decB n.natAbs := by rw [itB, Lib.itoa, if_pos h0, decB_dec]
    rw [e2]
    conv => arg 3; rw [e1]
    exact decimal_neg w n.natAbs (by omega) (by omega)
  · have e1 : n = ((n.toNat : Nat) : Int) := by omega
    have e2 : itB n = decB n.toNat := by rw [itB, Lib.itoa, if_neg h0, decB_dec]
    rw [e2]
    conv => arg 3; rw [e1]
    exact decimal_pos w n.toNat (by omega)
end Go.Proofs.YtkijckccfookeaaGreatDoor
