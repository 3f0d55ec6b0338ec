/- The contract of words.Sets. -/
import Derived.Test.YtccnogdfnikioaaDoorPureSets
import Derived.Test.YtccnogdfnikioaaDoorLeaf
import Derived.LoopTactic
import Derived.WalkSpells
import Derived.Deep.QuietTactic
import Derived.BigQuiet
namespace Go.Proofs.YtccnogdfnikioaaDoor
open Go.RowKit

theorem infoS32 : (Tryd.prog.info? 32).map (fun i => (i.zero, i.size, i.bytes)) = some (some (.slice none 0 0), 1, 24) := by kernel_rfl
theorem infoS35 : (Tryd.prog.info? 35).map (fun i => (i.zero, i.size, i.bytes)) = some (some (.agg #[.int .i64 0, .int .i64 0, .string ⟨#[]⟩]), 3, 32) := by kernel_rfl
set_option maxRecDepth 100000 in
set_option maxHeartbeats 4000000 in
theorem sets_ok (w : World) (ws : List P3) (Bd : Nat) (A : Option Addr) (n c : Nat) (hr : Rd w Bd A n 3 (c3s ws)) (hB : Bd ≤ w.heap.size) (hn : n ≤ 100000) :
    Calls Tryd.prog 17 #[.slice A n c] w (SetsPost 35 32 w ws) := by
  obtain ⟨i0, hi0, hz0, hz1, hz2⟩ := info_parts infoS32
  obtain ⟨j0, hj0, hy0, hy1, hy2⟩ := info_parts infoS35
  have hwl := Lib.hid hr.len3
  go_enter Tryd.func17, Tryd.ntmps17
  go_wp2
  go_loopw [4, 5, 6, 13] (fun v r o i wr => ∃ k : Nat, k ≤ n ∧ i = .int .i64 k ∧ ((o = .bool false ∧ SetsShut 35 32 w ws k v wr) ∨ (o = .bool true ∧ SetsOpen 35 32 w ws k v r wr))) (fun _ _ _ i _ => n - (intOf i).toNat)
  case atStart => exact ⟨0, by omega, rfl, .inl ⟨rfl, setsShut_start _ _ _ _ _ _ ⟨rfl, .inl ⟨rfl, rfl⟩⟩ (Below.refl _ _)⟩⟩
  case round =>
    obtain ⟨k, hk, rfl, hst⟩ := hrel
    by_cases hlt : k < n
    · obtain ⟨b, o, x, y, z, rfl, hbB, hp, q1, q2, q3⟩ := hr.at3 hlt
      rcases hst with ⟨rfl, hst⟩ | ⟨rfl, hst⟩
      · have hbl : Below w.heap.size w wr := by obtain ⟨_, _, _, _, _, _, h⟩ := hst; exact h
        have p1 : wr.cell? ⟨b, o + k * 3, none⟩ = some (.int .i64 x) := (hbl.cell (p := ⟨b, o + k * 3, none⟩) (by simp; omega)).trans q1
        have p2 : wr.cell? ⟨b, o + k * 3 + 1, none⟩ = some (.int .i64 y) := (hbl.cell (p := ⟨b, o + k * 3 + 1, none⟩) (by simp; omega)).trans q2
        have p3 : wr.cell? ⟨b, o + k * 3 + 2, none⟩ = some (.string ⟨z.toArray⟩) := (hbl.cell (p := ⟨b, o + k * 3 + 2, none⟩) (by simp; omega)).trans q3
        by_cases h91 : z = [91]
        · have e1 : (z == [91]) = true := by simp [h91]
          have e2 : (z == [93]) = false := by rw [h91]; decide
          have h93 := e2
          have hrel1 := Lib.hid (fun (W1 W2 : World) (hb : Below wr.heap.size wr W1) (h5 : W2.ownsRow W1.heap.size 35 3 (.slice none 0 0) 0 []) hb2 => setsShut_open hst hp.out h91 hb W2 h5 hb2)
          clear h91 h93 q1 q2 q3 hst
          go_wp2_with fail
          go_quiet (fail)
          obtain ⟨W1, hW1⟩ : ∃ W1, W1 = (wr.alloc (.cells #[.int .i64 x, .int .i64 y, .string ⟨z.toArray⟩] 35)).drewN nq := ⟨_, rfl⟩
          rw [← hW1]
          have hb1 : Below wr.heap.size wr W1 := by rw [hW1]; exact below_drewN ((Below.refl _ _).alloc (Nat.le_refl _) _) nq
          have r1 : W1.cell? ⟨wr.heap.size, 0, none⟩ = some (.int .i64 x) := by rw [hW1]; exact (Bk.new wr 35 #[.int .i64 x, .int .i64 y, .string ⟨z.toArray⟩]).cell 0
          have r2 : W1.cell? ⟨wr.heap.size, 1, none⟩ = some (.int .i64 y) := by rw [hW1]; exact (Bk.new wr 35 #[.int .i64 x, .int .i64 y, .string ⟨z.toArray⟩]).cell 1
          have r3 : W1.cell? ⟨wr.heap.size, 2, none⟩ = some (.string ⟨z.toArray⟩) := by rw [hW1]; exact (Bk.new wr 35 #[.int .i64 x, .int .i64 y, .string ⟨z.toArray⟩]).cell 2
          have hs1 : wr.heap.size + 1 ≤ W1.heap.size := by rw [hW1]; simp
          clear hW1 p1 p2 p3
          go_wp2
          go_roundw
          case rel => exact ⟨k + 1, by omega, by simp, .inr ⟨rfl, hrel1.out W1 W1 hb1 ⟨rfl, .inl ⟨rfl, rfl⟩⟩ (Below.refl _ _)⟩⟩
          case measure => simp [intOf]; omega
        · have e1 : (z == [91]) = false := by simpa using h91
          by_cases h93 : z = [93]
          · have e2 : (z == [93]) = true := by simp [h93]
            have hpost := Lib.hid (fun (W1 : World) (hb : Below wr.heap.size wr W1) => setsShut_bad hst hp.out h93 hb)
            clear h91 h93 q1 q2 q3 hst
            go_wp2_with fail
            go_quiet (fail)
            obtain ⟨W1, hW1⟩ : ∃ W1, W1 = (wr.alloc (.cells #[.int .i64 x, .int .i64 y, .string ⟨z.toArray⟩] 35)).drewN nq := ⟨_, rfl⟩
            rw [← hW1]
            have hb1 : Below wr.heap.size wr W1 := by rw [hW1]; exact below_drewN ((Below.refl _ _).alloc (Nat.le_refl _) _) nq
            have r1 : W1.cell? ⟨wr.heap.size, 0, none⟩ = some (.int .i64 x) := by rw [hW1]; exact (Bk.new wr 35 #[.int .i64 x, .int .i64 y, .string ⟨z.toArray⟩]).cell 0
            have r2 : W1.cell? ⟨wr.heap.size, 1, none⟩ = some (.int .i64 y) := by rw [hW1]; exact (Bk.new wr 35 #[.int .i64 x, .int .i64 y, .string ⟨z.toArray⟩]).cell 1
            have r3 : W1.cell? ⟨wr.heap.size, 2, none⟩ = some (.string ⟨z.toArray⟩) := by rw [hW1]; exact (Bk.new wr 35 #[.int .i64 x, .int .i64 y, .string ⟨z.toArray⟩]).cell 2
            have hs1 : wr.heap.size + 1 ≤ W1.heap.size := by rw [hW1]; simp
            clear hW1 p1 p2 p3
            go_wp2
            go_ret2
            exact hpost.out W1 hb1
          · have e2 : (z == [93]) = false := by simpa using h93
            obtain ⟨told, hs, g1, g2, g3, g4, g6⟩ := hst
            obtain ⟨A4, c4, rfl, -⟩ := Rd.of_own g3
            have hrel1 := Lib.hid (fun A5 c5 v6 W1 W2 hb hr' hown hg => setsShut_alone (t := 35) (tr := 32) (A5 := A5) (c5 := c5) (v6 := v6) (W1 := W1) (W2 := W2) g1 g2 g3 g4 g6 hp.out h91 h93 hb hr' hown hg (by decide))
            clear h91 h93 q1 q2 q3 g2
            have s6 := g6.size
            go_wp2_with fail
            go_quiet (fail)
            obtain ⟨W1, hW1⟩ : ∃ W1, W1 = (wr.alloc (.cells #[.int .i64 x, .int .i64 y, .string ⟨z.toArray⟩] 35)).drewN nq := ⟨_, rfl⟩
            rw [← hW1]
            have hb1 : Below wr.heap.size wr W1 := by rw [hW1]; exact below_drewN ((Below.refl _ _).alloc (Nat.le_refl _) _) nq
            have r1 : W1.cell? ⟨wr.heap.size, 0, none⟩ = some (.int .i64 x) := by rw [hW1]; exact (Bk.new wr 35 #[.int .i64 x, .int .i64 y, .string ⟨z.toArray⟩]).cell 0
            have r2 : W1.cell? ⟨wr.heap.size, 1, none⟩ = some (.int .i64 y) := by rw [hW1]; exact (Bk.new wr 35 #[.int .i64 x, .int .i64 y, .string ⟨z.toArray⟩]).cell 1
            have r3 : W1.cell? ⟨wr.heap.size, 2, none⟩ = some (.string ⟨z.toArray⟩) := by rw [hW1]; exact (Bk.new wr 35 #[.int .i64 x, .int .i64 y, .string ⟨z.toArray⟩]).cell 2
            have hs1 : wr.heap.size + 1 ≤ W1.heap.size := by rw [hW1]; simp
            clear hW1 p1 p2 p3
            go_wp2_with (at_builtin; refine wpList_append_any _ rfl (.tmp 23) (.tmp 26) 24 rfl w.heap.size 32 i0 _ 1 24 Tryd.underlying24 hi0 hz0 hz1 hz2 rfl (by decide) (.slice A4 hs.length c4) hs.length hs rfl (((own_below g3 hb1).alloc _).alloc _) ((W1.heap.size + 1) + 1) (some ⟨(W1.heap.size + 1), 0, none⟩) 1 1 [.slice (some ⟨W1.heap.size, 0, none⟩) 1 1] rfl (by exact Rd.newAt _ _ (by simp) #[.slice (some ⟨W1.heap.size, 0, none⟩) 1 1] 32 1 1 rfl) (by simp [Value.oneCell']) (by simp only [maxLen]; omega) (by omega) (by simp; omega) ?_; intro v2 w2 hown2 hg2 _)
            go_roundw
            case rel =>
              refine ⟨k + 1, by omega, by simp, .inl ⟨rfl, hrel1.out _ _ _ ((W1.alloc (.cells #[.int .i64 x, .int .i64 y, .string ⟨z.toArray⟩] 35)).alloc (.cells #[.slice (some ⟨W1.heap.size, 0, none⟩) 1 1] 32)) _ ?_ ?_ hown2 hg2⟩⟩
              · exact (hb1.alloc (by omega) _).alloc (by simp; omega) _
              · exact (RdT.new W1 #[.int .i64 x, .int .i64 y, .string ⟨z.toArray⟩] 35 1 3 rfl).alloc _
            case measure => simp [intOf]; omega
      · have hbl : Below w.heap.size w wr := by obtain ⟨_, _, _, _, _, _, _, _, _, h6, h7, _⟩ := hst; exact h6.trans (h7.mono h6.size)
        have p1 : wr.cell? ⟨b, o + k * 3, none⟩ = some (.int .i64 x) := (hbl.cell (p := ⟨b, o + k * 3, none⟩) (by simp; omega)).trans q1
        have p2 : wr.cell? ⟨b, o + k * 3 + 1, none⟩ = some (.int .i64 y) := (hbl.cell (p := ⟨b, o + k * 3 + 1, none⟩) (by simp; omega)).trans q2
        have p3 : wr.cell? ⟨b, o + k * 3 + 2, none⟩ = some (.string ⟨z.toArray⟩) := (hbl.cell (p := ⟨b, o + k * 3 + 2, none⟩) (by simp; omega)).trans q3
        by_cases h91 : z = [91]
        · have e1 : (z == [91]) = true := by simp [h91]
          have e2 : (z == [93]) = false := by rw [h91]; decide
          have h93 := e2
          have hpost := Lib.hid (fun (W1 : World) (hb : Below wr.heap.size wr W1) => setsOpen_bad hst hp.out h91 hb)
          clear h91 h93 q1 q2 q3 hst
          go_wp2_with fail
          go_quiet (fail)
          obtain ⟨W1, hW1⟩ : ∃ W1, W1 = (wr.alloc (.cells #[.int .i64 x, .int .i64 y, .string ⟨z.toArray⟩] 35)).drewN nq := ⟨_, rfl⟩
          rw [← hW1]
          have hb1 : Below wr.heap.size wr W1 := by rw [hW1]; exact below_drewN ((Below.refl _ _).alloc (Nat.le_refl _) _) nq
          have r1 : W1.cell? ⟨wr.heap.size, 0, none⟩ = some (.int .i64 x) := by rw [hW1]; exact (Bk.new wr 35 #[.int .i64 x, .int .i64 y, .string ⟨z.toArray⟩]).cell 0
          have r2 : W1.cell? ⟨wr.heap.size, 1, none⟩ = some (.int .i64 y) := by rw [hW1]; exact (Bk.new wr 35 #[.int .i64 x, .int .i64 y, .string ⟨z.toArray⟩]).cell 1
          have r3 : W1.cell? ⟨wr.heap.size, 2, none⟩ = some (.string ⟨z.toArray⟩) := by rw [hW1]; exact (Bk.new wr 35 #[.int .i64 x, .int .i64 y, .string ⟨z.toArray⟩]).cell 2
          have hs1 : wr.heap.size + 1 ≤ W1.heap.size := by rw [hW1]; simp
          clear hW1 p1 p2 p3
          go_wp2
          go_ret2
          exact hpost.out W1 hb1
        · have e1 : (z == [91]) = false := by simpa using h91
          by_cases h93 : z = [93]
          · have e2 : (z == [93]) = true := by simp [h93]
            obtain ⟨told, hs, row, Wo, g1, g2, g3, g4, g5, g6, g7, g8⟩ := hst
            obtain ⟨A4, c4, rfl, -⟩ := Rd.of_own g4
            obtain ⟨A5, c5, rfl, -⟩ := Rd.of_own g8
            have s6 := g6.size
            have s7 := g7.size
            have hrel1 := Lib.hid (fun v6 W1 W2 hb hown hg => setsOpen_close (t := 35) (tr := 32) (v6 := v6) (W1 := W1) (W2 := W2) g1 g3 g4 g5 g6 g7 g8 hp.out h93 hb hown hg (by decide))
            have hl4 := own_below g4 g7
            clear h91 h93 q1 q2 q3 g3
            go_wp2_with fail
            go_quiet (fail)
            obtain ⟨W1, hW1⟩ : ∃ W1, W1 = (wr.alloc (.cells #[.int .i64 x, .int .i64 y, .string ⟨z.toArray⟩] 35)).drewN nq := ⟨_, rfl⟩
            rw [← hW1]
            have hb1 : Below wr.heap.size wr W1 := by rw [hW1]; exact below_drewN ((Below.refl _ _).alloc (Nat.le_refl _) _) nq
            have r1 : W1.cell? ⟨wr.heap.size, 0, none⟩ = some (.int .i64 x) := by rw [hW1]; exact (Bk.new wr 35 #[.int .i64 x, .int .i64 y, .string ⟨z.toArray⟩]).cell 0
            have r2 : W1.cell? ⟨wr.heap.size, 1, none⟩ = some (.int .i64 y) := by rw [hW1]; exact (Bk.new wr 35 #[.int .i64 x, .int .i64 y, .string ⟨z.toArray⟩]).cell 1
            have r3 : W1.cell? ⟨wr.heap.size, 2, none⟩ = some (.string ⟨z.toArray⟩) := by rw [hW1]; exact (Bk.new wr 35 #[.int .i64 x, .int .i64 y, .string ⟨z.toArray⟩]).cell 2
            have hs1 : wr.heap.size + 1 ≤ W1.heap.size := by rw [hW1]; simp
            clear hW1 p1 p2 p3
            go_wp2_with (at_builtin; refine wpList_append_any _ rfl (.tmp 42) (.tmp 44) 24 rfl w.heap.size 32 i0 _ 1 24 Tryd.underlying24 hi0 hz0 hz1 hz2 rfl (by decide) (.slice A4 hs.length c4) hs.length hs rfl ((own_below hl4 hb1).alloc _) (W1.heap.size + 1) (some ⟨W1.heap.size, 0, none⟩) 1 1 [.slice A5 row.length c5] rfl (by exact Rd.newAt _ _ (by simp) #[.slice A5 row.length c5] 32 1 1 rfl) (by simp [Value.oneCell']) (by simp only [maxLen]; omega) (by omega) (by simp; omega) ?_; intro v2 w2 hown2 hg2 _)
            go_roundw
            case rel => exact ⟨k + 1, by omega, by simp, .inl ⟨rfl, hrel1.out _ _ _ (hb1.alloc (by omega) _) hown2 hg2⟩⟩
            case measure => simp [intOf]; omega
          · have e2 : (z == [93]) = false := by simpa using h93
            obtain ⟨told, hs, row, Wo, g1, g2, g3, g4, g5, g6, g7, g8⟩ := hst
            obtain ⟨A4, c4, rfl, -⟩ := Rd.of_own g4
            obtain ⟨A5, c5, rfl, -⟩ := Rd.of_own g8
            have s6 := g6.size
            have s7 := g7.size
            have hrel1 := Lib.hid (fun v6 W1 W2 hb hown hg => setsOpen_in (t := 35) (tr := 32) (v6 := v6) (W1 := W1) (W2 := W2) g1 g2 g3 g4 g5 g6 g7 g8 hp.out h91 h93 hb hown hg)
            clear h91 h93 q1 q2 q3 g3
            go_wp2_with fail
            go_quiet (fail)
            obtain ⟨W1, hW1⟩ : ∃ W1, W1 = (wr.alloc (.cells #[.int .i64 x, .int .i64 y, .string ⟨z.toArray⟩] 35)).drewN nq := ⟨_, rfl⟩
            rw [← hW1]
            have hb1 : Below wr.heap.size wr W1 := by rw [hW1]; exact below_drewN ((Below.refl _ _).alloc (Nat.le_refl _) _) nq
            have r1 : W1.cell? ⟨wr.heap.size, 0, none⟩ = some (.int .i64 x) := by rw [hW1]; exact (Bk.new wr 35 #[.int .i64 x, .int .i64 y, .string ⟨z.toArray⟩]).cell 0
            have r2 : W1.cell? ⟨wr.heap.size, 1, none⟩ = some (.int .i64 y) := by rw [hW1]; exact (Bk.new wr 35 #[.int .i64 x, .int .i64 y, .string ⟨z.toArray⟩]).cell 1
            have r3 : W1.cell? ⟨wr.heap.size, 2, none⟩ = some (.string ⟨z.toArray⟩) := by rw [hW1]; exact (Bk.new wr 35 #[.int .i64 x, .int .i64 y, .string ⟨z.toArray⟩]).cell 2
            have hs1 : wr.heap.size + 1 ≤ W1.heap.size := by rw [hW1]; simp
            clear hW1 p1 p2 p3
            go_wp2_with (at_builtin; refine wpList_append_any _ rfl (.tmp 48) (.tmp 50) 32 rfl Wo.heap.size 35 j0 _ 3 32 Tryd.underlying32 hj0 hy0 hy1 hy2 rfl (by decide) (.slice A5 row.length c5) row.length (c3s row) rfl ((own_below g8 hb1).alloc _) (W1.heap.size + 1) (some ⟨W1.heap.size, 0, none⟩) 1 1 [.int .i64 x, .int .i64 y, .string ⟨z.toArray⟩] rfl (by exact Rd.newAt _ _ (by simp) #[.int .i64 x, .int .i64 y, .string ⟨z.toArray⟩] 35 1 3 rfl) (by simp [Value.oneCell']) (by simp only [maxLen]; omega) (by omega) (by simp; omega) ?_; intro v2 w2 hown2 hg2 _)
            go_roundw
            case rel => exact ⟨k + 1, by omega, by simp, .inr ⟨rfl, hrel1.out _ _ _ (hb1.alloc (by omega) _) hown2 hg2⟩⟩
            case measure => simp [intOf]; omega
    · obtain rfl : k = n := by omega
      rcases hst with ⟨rfl, hst⟩ | ⟨rfl, hst⟩
      · obtain ⟨A4, n4, c4, rfl⟩ : ∃ A4 n4 c4, u4 = .slice A4 n4 c4 := by
          obtain ⟨_, _, _, _, h3, _, _⟩ := hst
          obtain ⟨A4, c4, h, -⟩ := Rd.of_own h3
          exact ⟨_, _, _, h⟩
        have hpost := Lib.hid (setsShut_end hst (by rw [hwl.out]; exact Nat.le_refl _))
        clear hst
        go_wp2
        go_ret2
        exact hpost.out
      · obtain ⟨e1, e2⟩ := setsOpen_end hst (by rw [hwl.out]; exact Nat.le_refl _)
        have hpost := Lib.hid (setsPost_no (t := 35) (tr := 32) e1 e2)
        clear hst e1 e2
        go_wp2
        go_ret2
        exact hpost.out
end Go.Proofs.YtccnogdfnikioaaDoor
