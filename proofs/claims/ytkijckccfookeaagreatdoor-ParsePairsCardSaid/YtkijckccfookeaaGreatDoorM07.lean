/- The contract of words.Sets. -/
import Derived.Test.YtkijckccfookeaaGreatDoorM05
import Derived.Test.YtkijckccfookeaaGreatDoorM04
import Derived.Test.YtkijckccfookeaaGreatDoorM06
import Derived.LoopTactic
import Derived.WalkSpells
import Derived.Deep.QuietTactic
import Derived.BigQuiet
import Derived.Lib.Hide
namespace Go.Proofs.YtkijckccfookeaaGreatDoor
open Go.RowKit

theorem infoS32 : (Tryz.prog.info? 119).map (fun i => (i.zero, i.size, i.bytes)) = some (some (.slice none 0 0), 1, 24) := by kernel_rfl
theorem infoS35 : (Tryz.prog.info? 124).map (fun i => (i.zero, i.size, i.bytes)) = some (some (.agg #[.int .i64 0, .int .i64 0, .string ⟨#[]⟩]), 3, 32) := by kernel_rfl
set_option maxRecDepth 100000 in
set_option maxHeartbeats 4000000 in
theorem wSets_ok (w : World) (ws : List P3) (Bd : Nat) (A : Option Addr) (n c : Nat) (hr : Rd w Bd A n 3 (c3s ws)) (hB : Bd ≤ w.heap.size) (hn : n ≤ 1000000000) :
    Calls Tryz.prog 127 #[.slice A n c] w (SetsPost 124 119 w ws) := by
  obtain ⟨i0, hi0, hz0, hz1, hz2⟩ := info_parts infoS32
  obtain ⟨j0, hj0, hy0, hy1, hy2⟩ := info_parts infoS35
  have hwl := Lib.hid hr.len3
  go_enter Tryz.func127, Tryz.ntmps127
  go_wp2
  go_loopw [4, 5, 6, 13] (fun v r o i wr => ∃ k : Nat, k ≤ n ∧ i = .int .i64 k ∧ ((o = .bool false ∧ SetsShut 124 119 w ws k v wr) ∨ (o = .bool true ∧ SetsOpen 124 119 w ws k v r wr))) (fun _ _ _ i _ => n - (intOf i).toNat)
  case atStart => exact ⟨0, by omega, rfl, .inl ⟨rfl, setsShut_start _ _ _ _ _ _ ⟨rfl, .inl ⟨rfl, rfl⟩⟩ (Below.refl _ _)⟩⟩
  case round =>
    obtain ⟨k, hk, rfl, hst⟩ := hrel
    by_cases hlt : k < n
    · obtain ⟨b, o, x, y, z, rfl, hbB, hp, q1, q2, q3⟩ := hr.at3 hlt
      rcases hst with ⟨rfl, hst⟩ | ⟨rfl, hst⟩
      · have hbl : Below w.heap.size w wr := by obtain ⟨_, _, _, _, _, _, h⟩ := hst; exact h
        have p1 : wr.cell? ⟨b, o + k * 3, none⟩ = some (.int .i64 x) := (hbl.cell (p := ⟨b, o + k * 3, none⟩) (by simp; omega)).trans q1
        have p2 : wr.cell? ⟨b, o + k * 3 + 1, none⟩ = some (.int .i64 y) := (hbl.cell (p := ⟨b, o + k * 3 + 1, none⟩) (by simp; omega)).trans q2
        have p3 : wr.cell? ⟨b, o + k * 3 + 2, none⟩ = some (.string ⟨z.toArray⟩) := (hbl.cell (p := ⟨b, o + k * 3 + 2, none⟩) (by simp; omega)).trans q3
        by_cases h91 : z = [91]
        · have e1 : (z == [91]) = true := by simp [h91]
          have e2 : (z == [93]) = false := by rw [h91]; decide
          have h93 := e2
          have hrel1 := Lib.hid (fun (W1 W2 : World) (hb : Below wr.heap.size wr W1) (h5 : W2.ownsRow W1.heap.size 124 3 (.slice none 0 0) 0 []) hb2 => setsShut_open hst hp.out h91 hb W2 h5 hb2)
          clear h91 h93 q1 q2 q3 hst
          go_wp2_with fail
          go_quiet (fail)
          obtain ⟨W1, hW1⟩ : ∃ W1, W1 = (wr.alloc (.cells #[.int .i64 x, .int .i64 y, .string ⟨z.toArray⟩] 124)).drewN nq := ⟨_, rfl⟩
          rw [← hW1]
          have hb1 : Below wr.heap.size wr W1 := by rw [hW1]; exact below_drewN ((Below.refl _ _).alloc (Nat.le_refl _) _) nq
          have r1 : W1.cell? ⟨wr.heap.size, 0, none⟩ = some (.int .i64 x) := by rw [hW1]; exact (Bk.new wr 124 #[.int .i64 x, .int .i64 y, .string ⟨z.toArray⟩]).cell 0
          have r2 : W1.cell? ⟨wr.heap.size, 1, none⟩ = some (.int .i64 y) := by rw [hW1]; exact (Bk.new wr 124 #[.int .i64 x, .int .i64 y, .string ⟨z.toArray⟩]).cell 1
          have r3 : W1.cell? ⟨wr.heap.size, 2, none⟩ = some (.string ⟨z.toArray⟩) := by rw [hW1]; exact (Bk.new wr 124 #[.int .i64 x, .int .i64 y, .string ⟨z.toArray⟩]).cell 2
          have hs1 : wr.heap.size + 1 ≤ W1.heap.size := by rw [hW1]; simp
          clear hW1 p1 p2 p3
          go_wp2
          go_roundw
          case rel => exact ⟨k + 1, by omega, by simp, .inr ⟨rfl, hrel1.out W1 W1 hb1 ⟨rfl, .inl ⟨rfl, rfl⟩⟩ (Below.refl _ _)⟩⟩
          case measure => simp [intOf]; omega
        · have e1 : (z == [91]) = false := by simpa using h91
          by_cases h93 : z = [93]
          · have e2 : (z == [93]) = true := by simp [h93]
            have hpost := Lib.hid (fun (W1 : World) (hb : Below wr.heap.size wr W1) => setsShut_bad hst hp.out h93 hb)
            clear h91 h93 q1 q2 q3 hst
            go_wp2_with fail
            go_quiet (fail)
            obtain ⟨W1, hW1⟩ : ∃ W1, W1 = (wr.alloc (.cells #[.int .i64 x, .int .i64 y, .string ⟨z.toArray⟩] 124)).drewN nq := ⟨_, rfl⟩
            rw [← hW1]
            have hb1 : Below wr.heap.size wr W1 := by rw [hW1]; exact below_drewN ((Below.refl _ _).alloc (Nat.le_refl _) _) nq
            have r1 : W1.cell? ⟨wr.heap.size, 0, none⟩ = some (.int .i64 x) := by rw [hW1]; exact (Bk.new wr 124 #[.int .i64 x, .int .i64 y, .string ⟨z.toArray⟩]).cell 0
            have r2 : W1.cell? ⟨wr.heap.size, 1, none⟩ = some (.int .i64 y) := by rw [hW1]; exact (Bk.new wr 124 #[.int .i64 x, .int .i64 y, .string ⟨z.toArray⟩]).cell 1
            have r3 : W1.cell? ⟨wr.heap.size, 2, none⟩ = some (.string ⟨z.toArray⟩) := by rw [hW1]; exact (Bk.new wr 124 #[.int .i64 x, .int .i64 y, .string ⟨z.toArray⟩]).cell 2
            have hs1 : wr.heap.size + 1 ≤ W1.heap.size := by rw [hW1]; simp
            clear hW1 p1 p2 p3
            go_wp2
            go_ret2
            exact hpost.out W1 hb1
          · have e2 : (z == [93]) = false := by simpa using h93
            obtain ⟨told, hs, g1, g2, g3, g4, g6⟩ := hst
            obtain ⟨A4, c4, rfl, -⟩ := Rd.of_own g3
            have hrel1 := Lib.hid (fun A5 c5 v6 W1 W2 hb hr' h15 hown hg => setsShut_alone (t := 124) (tr := 119) (A5 := A5) (c5 := c5) (v6 := v6) (W1 := W1) (W2 := W2) g1 g2 g3 g4 g6 hp.out h91 h93 hb hr' h15 hown hg (by decide))
            clear h91 h93 q1 q2 q3 g2
            have s6 := g6.size
            go_wp2_with fail
            go_quiet (fail)
            obtain ⟨W1, hW1⟩ : ∃ W1, W1 = (wr.alloc (.cells #[.int .i64 x, .int .i64 y, .string ⟨z.toArray⟩] 124)).drewN nq := ⟨_, rfl⟩
            rw [← hW1]
            have hb1 : Below wr.heap.size wr W1 := by rw [hW1]; exact below_drewN ((Below.refl _ _).alloc (Nat.le_refl _) _) nq
            have r1 : W1.cell? ⟨wr.heap.size, 0, none⟩ = some (.int .i64 x) := by rw [hW1]; exact (Bk.new wr 124 #[.int .i64 x, .int .i64 y, .string ⟨z.toArray⟩]).cell 0
            have r2 : W1.cell? ⟨wr.heap.size, 1, none⟩ = some (.int .i64 y) := by rw [hW1]; exact (Bk.new wr 124 #[.int .i64 x, .int .i64 y, .string ⟨z.toArray⟩]).cell 1
            have r3 : W1.cell? ⟨wr.heap.size, 2, none⟩ = some (.string ⟨z.toArray⟩) := by rw [hW1]; exact (Bk.new wr 124 #[.int .i64 x, .int .i64 y, .string ⟨z.toArray⟩]).cell 2
            have hs1 : wr.heap.size + 1 ≤ W1.heap.size := by rw [hW1]; simp
            clear hW1 p1 p2 p3
            go_wp2_with (at_builtin; refine wpList_append_any _ rfl (.tmp 23) (.tmp 26) 109 rfl w.heap.size 119 i0 _ 1 24 Tryz.underlying109 hi0 hz0 hz1 hz2 rfl (by decide) (.slice A4 hs.length c4) hs.length hs rfl (((own_below g3 hb1).alloc _).alloc _) ((W1.heap.size + 1) + 1) (some ⟨(W1.heap.size + 1), 0, none⟩) 1 1 [.slice (some ⟨W1.heap.size, 0, none⟩) 1 1] rfl (by exact Rd.newAt _ _ (by simp) #[.slice (some ⟨W1.heap.size, 0, none⟩) 1 1] 119 1 1 rfl) (by simp [Value.oneCell']) (by simp only [maxLen]; omega) (by omega) (by simp; omega) ?_; intro v2 w2 hown2 hg2 _)
            go_roundw
            case rel =>
              refine ⟨k + 1, by omega, by simp, .inl ⟨rfl, hrel1.out _ _ _ ((W1.alloc (.cells #[.int .i64 x, .int .i64 y, .string ⟨z.toArray⟩] 124)).alloc (.cells #[.slice (some ⟨W1.heap.size, 0, none⟩) 1 1] 119)) _ ?_ ?_ (Nat.le_refl 1) hown2 hg2⟩⟩
              · exact (hb1.alloc (by omega) _).alloc (by simp; omega) _
              · exact (RdT.new W1 #[.int .i64 x, .int .i64 y, .string ⟨z.toArray⟩] 124 1 3 rfl).alloc _
            case measure => simp [intOf]; omega
      · have hbl : Below w.heap.size w wr := by obtain ⟨_, _, _, _, _, _, _, _, _, h6, h7, _⟩ := hst; exact h6.trans (h7.mono h6.size)
        have p1 : wr.cell? ⟨b, o + k * 3, none⟩ = some (.int .i64 x) := (hbl.cell (p := ⟨b, o + k * 3, none⟩) (by simp; omega)).trans q1
        have p2 : wr.cell? ⟨b, o + k * 3 + 1, none⟩ = some (.int .i64 y) := (hbl.cell (p := ⟨b, o + k * 3 + 1, none⟩) (by simp; omega)).trans q2
        have p3 : wr.cell? ⟨b, o + k * 3 + 2, none⟩ = some (.string ⟨z.toArray⟩) := (hbl.cell (p := ⟨b, o + k * 3 + 2, none⟩) (by simp; omega)).trans q3
        by_cases h91 : z = [91]
        · have e1 : (z == [91]) = true := by simp [h91]
          have e2 : (z == [93]) = false := by rw [h91]; decide
          have h93 := e2
          have hpost := Lib.hid (fun (W1 : World) (hb : Below wr.heap.size wr W1) => setsOpen_bad hst hp.out h91 hb)
          clear h91 h93 q1 q2 q3 hst
          go_wp2_with fail
          go_quiet (fail)
          obtain ⟨W1, hW1⟩ : ∃ W1, W1 = (wr.alloc (.cells #[.int .i64 x, .int .i64 y, .string ⟨z.toArray⟩] 124)).drewN nq := ⟨_, rfl⟩
          rw [← hW1]
          have hb1 : Below wr.heap.size wr W1 := by rw [hW1]; exact below_drewN ((Below.refl _ _).alloc (Nat.le_refl _) _) nq
          have r1 : W1.cell? ⟨wr.heap.size, 0, none⟩ = some (.int .i64 x) := by rw [hW1]; exact (Bk.new wr 124 #[.int .i64 x, .int .i64 y, .string ⟨z.toArray⟩]).cell 0
          have r2 : W1.cell? ⟨wr.heap.size, 1, none⟩ = some (.int .i64 y) := by rw [hW1]; exact (Bk.new wr 124 #[.int .i64 x, .int .i64 y, .string ⟨z.toArray⟩]).cell 1
          have r3 : W1.cell? ⟨wr.heap.size, 2, none⟩ = some (.string ⟨z.toArray⟩) := by rw [hW1]; exact (Bk.new wr 124 #[.int .i64 x, .int .i64 y, .string ⟨z.toArray⟩]).cell 2
          have hs1 : wr.heap.size + 1 ≤ W1.heap.size := by rw [hW1]; simp
          clear hW1 p1 p2 p3
          go_wp2
          go_ret2
          exact hpost.out W1 hb1
        · have e1 : (z == [91]) = false := by simpa using h91
          by_cases h93 : z = [93]
          · have e2 : (z == [93]) = true := by simp [h93]
            obtain ⟨told, hs, row, Wo, g1, g2, g3, g4, g5, g6, g7, g8⟩ := hst
            obtain ⟨A4, c4, rfl, -⟩ := Rd.of_own g4
            obtain ⟨A5, c5, rfl, -⟩ := Rd.of_own g8
            have s6 := g6.size
            have s7 := g7.size
            have hrel1 := Lib.hid (fun v6 W1 W2 hb hown hg => setsOpen_close (t := 124) (tr := 119) (v6 := v6) (W1 := W1) (W2 := W2) g1 g3 g4 g5 g6 g7 g8 hp.out h93 hb hown hg (by decide))
            have hl4 := own_below g4 g7
            clear h91 h93 q1 q2 q3 g3
            go_wp2_with fail
            go_quiet (fail)
            obtain ⟨W1, hW1⟩ : ∃ W1, W1 = (wr.alloc (.cells #[.int .i64 x, .int .i64 y, .string ⟨z.toArray⟩] 124)).drewN nq := ⟨_, rfl⟩
            rw [← hW1]
            have hb1 : Below wr.heap.size wr W1 := by rw [hW1]; exact below_drewN ((Below.refl _ _).alloc (Nat.le_refl _) _) nq
            have r1 : W1.cell? ⟨wr.heap.size, 0, none⟩ = some (.int .i64 x) := by rw [hW1]; exact (Bk.new wr 124 #[.int .i64 x, .int .i64 y, .string ⟨z.toArray⟩]).cell 0
            have r2 : W1.cell? ⟨wr.heap.size, 1, none⟩ = some (.int .i64 y) := by rw [hW1]; exact (Bk.new wr 124 #[.int .i64 x, .int .i64 y, .string ⟨z.toArray⟩]).cell 1
            have r3 : W1.cell? ⟨wr.heap.size, 2, none⟩ = some (.string ⟨z.toArray⟩) := by rw [hW1]; exact (Bk.new wr 124 #[.int .i64 x, .int .i64 y, .string ⟨z.toArray⟩]).cell 2
            have hs1 : wr.heap.size + 1 ≤ W1.heap.size := by rw [hW1]; simp
            clear hW1 p1 p2 p3
            go_wp2_with (at_builtin; refine wpList_append_any _ rfl (.tmp 42) (.tmp 44) 109 rfl w.heap.size 119 i0 _ 1 24 Tryz.underlying109 hi0 hz0 hz1 hz2 rfl (by decide) (.slice A4 hs.length c4) hs.length hs rfl ((own_below hl4 hb1).alloc _) (W1.heap.size + 1) (some ⟨W1.heap.size, 0, none⟩) 1 1 [.slice A5 row.length c5] rfl (by exact Rd.newAt _ _ (by simp) #[.slice A5 row.length c5] 119 1 1 rfl) (by simp [Value.oneCell']) (by simp only [maxLen]; omega) (by omega) (by simp; omega) ?_; intro v2 w2 hown2 hg2 _)
            go_roundw
            case rel => exact ⟨k + 1, by omega, by simp, .inl ⟨rfl, hrel1.out _ _ _ (hb1.alloc (by omega) _) hown2 hg2⟩⟩
            case measure => simp [intOf]; omega
          · have e2 : (z == [93]) = false := by simpa using h93
            obtain ⟨told, hs, row, Wo, g1, g2, g3, g4, g5, g6, g7, g8⟩ := hst
            obtain ⟨A4, c4, rfl, -⟩ := Rd.of_own g4
            obtain ⟨A5, c5, rfl, -⟩ := Rd.of_own g8
            have s6 := g6.size
            have s7 := g7.size
            have hrel1 := Lib.hid (fun v6 W1 W2 hb hown hg => setsOpen_in (t := 124) (tr := 119) (v6 := v6) (W1 := W1) (W2 := W2) g1 g2 g3 g4 g5 g6 g7 g8 hp.out h91 h93 hb hown hg)
            clear h91 h93 q1 q2 q3 g3
            go_wp2_with fail
            go_quiet (fail)
            obtain ⟨W1, hW1⟩ : ∃ W1, W1 = (wr.alloc (.cells #[.int .i64 x, .int .i64 y, .string ⟨z.toArray⟩] 124)).drewN nq := ⟨_, rfl⟩
            rw [← hW1]
            have hb1 : Below wr.heap.size wr W1 := by rw [hW1]; exact below_drewN ((Below.refl _ _).alloc (Nat.le_refl _) _) nq
            have r1 : W1.cell? ⟨wr.heap.size, 0, none⟩ = some (.int .i64 x) := by rw [hW1]; exact (Bk.new wr 124 #[.int .i64 x, .int .i64 y, .string ⟨z.toArray⟩]).cell 0
            have r2 : W1.cell? ⟨wr.heap.size, 1, none⟩ = some (.int .i64 y) := by rw [hW1]; exact (Bk.new wr 124 #[.int .i64 x, .int .i64 y, .string ⟨z.toArray⟩]).cell 1
            have r3 : W1.cell? ⟨wr.heap.size, 2, none⟩ = some (.string ⟨z.toArray⟩) := by rw [hW1]; exact (Bk.new wr 124 #[.int .i64 x, .int .i64 y, .string ⟨z.toArray⟩]).cell 2
            have hs1 : wr.heap.size + 1 ≤ W1.heap.size := by rw [hW1]; simp
            clear hW1 p1 p2 p3
            go_wp2_with (at_builtin; refine wpList_append_any _ rfl (.tmp 48) (.tmp 50) 119 rfl Wo.heap.size 124 j0 _ 3 32 Tryz.underlying119 hj0 hy0 hy1 hy2 rfl (by decide) (.slice A5 row.length c5) row.length (c3s row) rfl ((own_below g8 hb1).alloc _) (W1.heap.size + 1) (some ⟨W1.heap.size, 0, none⟩) 1 1 [.int .i64 x, .int .i64 y, .string ⟨z.toArray⟩] rfl (by exact Rd.newAt _ _ (by simp) #[.int .i64 x, .int .i64 y, .string ⟨z.toArray⟩] 124 1 3 rfl) (by simp [Value.oneCell']) (by simp only [maxLen]; omega) (by omega) (by simp; omega) ?_; intro v2 w2 hown2 hg2 _)
            go_roundw
            case rel => exact ⟨k + 1, by omega, by simp, .inr ⟨rfl, hrel1.out _ _ _ (hb1.alloc (by omega) _) hown2 hg2⟩⟩
            case measure => simp [intOf]; omega
    · obtain rfl : k = n := by omega
      rcases hst with ⟨rfl, hst⟩ | ⟨rfl, hst⟩
      · obtain ⟨A4, n4, c4, rfl⟩ : ∃ A4 n4 c4, u4 = .slice A4 n4 c4 := by
          obtain ⟨_, _, _, _, h3, _, _⟩ := hst
          obtain ⟨A4, c4, h, -⟩ := Rd.of_own h3
          exact ⟨_, _, _, h⟩
        have hpost := Lib.hid (setsShut_end hst (by rw [hwl.out]; exact Nat.le_refl _))
        clear hst
        go_wp2
        go_ret2
        exact hpost.out
      · obtain ⟨e1, e2⟩ := setsOpen_end hst (by rw [hwl.out]; exact Nat.le_refl _)
        have hpost := Lib.hid (setsPost_no (t := 124) (tr := 119) e1 e2)
        clear hst e1 e2
        go_wp2
        go_ret2
        exact hpost.out
end Go.Proofs.YtkijckccfookeaaGreatDoor
/- parse: the reader of a statement's words: fail, number, name, glyph, numbers. -/
namespace Go.Proofs.YtkijckccfookeaaGreatDoor
open Go.RowKit

/-- the reader: its parser, its first error -/
abbrev Rdr (w : World) (rb p : Nat) (err : Int) : Prop := Bk w rb tRdr #[.pointer (some ⟨p, 0, none⟩), .int .i64 err]
theorem grown_tr {a b c : World} {row : Option Nat} (h : a.grownBy b row) (k : b.grownBy c row) : a.grownBy c row :=
  ⟨k.os.trans h.os, k.tape.trans h.tape, k.output.trans h.output, Nat.le_trans h.size k.size, fun i hi hne => (k.block i (Nat.lt_of_lt_of_le hi h.size) hne).trans (h.block i hi hne)⟩
theorem grown_new {a b c : World} {row r2 : Option Nat} (h : a.grownBy b row) (k : b.grownBy c r2) (hr : ∀ g, r2 = some g → a.heap.size ≤ g) : a.grownBy c row :=
  ⟨k.os.trans h.os, k.tape.trans h.tape, k.output.trans h.output, Nat.le_trans h.size k.size, fun i hi hne => (k.block i (Nat.lt_of_lt_of_le hi h.size) (fun e => by have := hr i e.symm; omega)).trans (h.block i hi hne)⟩
def eC (err c : Int) : Int := if err = 0 then c else err
set_option maxHeartbeats 1000000 in
theorem fail_ok (w : World) (rb p : Nat) (err c : Int) (h : Rdr w rb p err) :
    Calls Tryz.prog 164 #[.pointer (some ⟨rb, 0, none⟩), .int .i64 c] w fun e w' => e = .returned (.tuple #[]) ∧ Rdr w' rb p (eC err c) ∧ w.grownBy w' (some rb) := by
  have c1 : w.cell? ⟨rb, 1, none⟩ = some (.int .i64 err) := h.cell 1
  have f1 : w.frozen? ⟨rb, 1, none⟩ = false := h.frozen 1
  have H := Lib.hid h
  clear h
  by_cases h0 : err = 0
  · subst h0
    go_enter Tryz.func164, Tryz.ntmps164
    go_wp2
    go_end0
    exact ⟨rfl, H.out.set 1 _, grown_set w ⟨rb, 1, none⟩ _⟩
  · have e0 : (err == 0) = false := by simpa using h0
    have e1 : Hid (eC err c = err) := by show _ = _; rw [eC, if_neg h0]
    clear h0
    go_enter Tryz.func164, Tryz.ntmps164
    go_wp2
    go_end0
    rw [e1.out]
    exact ⟨rfl, H.out, World.grownBy.refl _ _⟩
/-- what a reading of one word leaves: a value, the reader, all else -/
def RdP (w : World) (rb p : Nat) (err : Int) (v : Value) (e : Ending) (w' : World) : Prop := e = .returned v ∧ Rdr w' rb p err ∧ w.grownBy w' (some rb)
theorem Rdr.below {w w' : World} {rb p : Nat} {err : Int} (h : Rdr w rb p err) (hb : Below w.heap.size w w') : Rdr w' rb p err := (hb.block rb h.lt).trans h
theorem grown_of_below {w w' : World} (hb : Below w.heap.size w w') (row : Option Nat) : w.grownBy w' row := only_of_below hb row
theorem below_grown {a b c : World} {row : Option Nat} (hb : Below a.heap.size a b) (h : b.grownBy c row) : a.grownBy c row :=
  grown_tr (only_of_below hb row) h
set_option maxHeartbeats 1000000 in
theorem number_ok (w : World) (rb p : Nat) (err : Int) (t : B) (h : Rdr w rb p err) (ht : t.length ≤ 1000000) :
    Calls Tryz.prog 122 #[.pointer (some ⟨rb, 0, none⟩), .string ⟨t.toArray⟩] w (RdP w rb p (eNum err t) (.int .i64 (numV t))) := by
  have hn := Lib.hid (wNumber_ok w t ht)
  have H := Lib.hid h
  clear h ht
  cases hk : numOk t with
  | true =>
    have e1 : Hid (eNum err t = err) := by show _ = _; rw [eNum, hk]; simp
    have hk := Lib.hid hk
    go_enter Tryz.func122, Tryz.ntmps122
    go_wp2_with (go_at_call 163; refine hn.out.mono ?_; rintro e w1 ⟨rfl, hb1⟩; rw [hk.out])
    go_ret
    rw [e1.out]
    exact ⟨rfl, H.out.below hb1, grown_of_below hb1 _⟩
  | false =>
    have e1 : Hid (eNum err t = eC err 21) := by show _ = _; rw [eNum, hk, eC]; simp
    have hk := Lib.hid hk
    go_enter Tryz.func122, Tryz.ntmps122
    go_wp2_with (first
      | (go_at_call 163; refine hn.out.mono ?_; rintro e w1 ⟨rfl, hb1⟩; rw [hk.out])
      | (go_at_call 164; refine (fail_ok w1 rb p err 21 (H.out.below hb1)).mono ?_; rintro e w2 ⟨rfl, hr2, hg2⟩))
    go_ret
    rw [e1.out]
    exact ⟨rfl, hr2, below_grown hb1 hg2⟩
set_option maxHeartbeats 1000000 in
theorem name_ok (w : World) (rb p : Nat) (err : Int) (t : B) (h : Rdr w rb p err) :
    Calls Tryz.prog 123 #[.pointer (some ⟨rb, 0, none⟩), .string ⟨t.toArray⟩] w (RdP w rb p (eName err t) (.string ⟨t.toArray⟩)) := by
  have hn := Lib.hid (wName_ok w t)
  have H := Lib.hid h
  clear h
  cases hk : nameB t with
  | true =>
    have e1 : Hid (eName err t = err) := by show _ = _; rw [eName, hk]; simp
    have hk := Lib.hid hk
    go_enter Tryz.func123, Tryz.ntmps123
    go_wp2_with (go_at_call 72; refine hn.out.mono ?_; rintro e w1 ⟨rfl, hb1⟩; rw [hk.out])
    go_ret
    rw [e1.out]
    exact ⟨rfl, H.out.below hb1, grown_of_below hb1 _⟩
  | false =>
    have e1 : Hid (eName err t = eC err 23) := by show _ = _; rw [eName, hk, eC]; simp
    have hk := Lib.hid hk
    go_enter Tryz.func123, Tryz.ntmps123
    go_wp2_with (first
      | (go_at_call 72; refine hn.out.mono ?_; rintro e w1 ⟨rfl, hb1⟩; rw [hk.out])
      | (go_at_call 164; refine (fail_ok w1 rb p err 23 (H.out.below hb1)).mono ?_; rintro e w2 ⟨rfl, hr2, hg2⟩))
    go_ret
    rw [e1.out]
    exact ⟨rfl, hr2, below_grown hb1 hg2⟩
/-- where the names of the glyphs lie -/
structure GmAt (w : World) (p gm : Nat) (gl : Gl) : Prop where
  cell : w.cell? ⟨p, 10, none⟩ = some (.map (some gm))
  map : MapF embB w gm (fun t => (gl.lookup t).map fun n => .int .i64 (n : Nat))
theorem MapF.lookB {κ : Type} {E : Emb κ} {w : World} {b : Nat} {f : κ → Option Value} {P : Program} {T K El : TypeId} (h : MapF E w b f) (hT : P.underlying T = some (.map K El)) (hK : P.underlying K = some E.d) {z : Value} (hz : (zeroValue El).run P w = .ok z w) (k : κ) {v : Value} {ok : Bool} (hv : (f k).getD z = v) (ho : (f k).isSome = ok) :
    (Instr.lookup T (.map (some b)) (E.emb k) true).run P w = .ok (.tuple #[v, .bool ok]) w := by
  rw [h.look2 hT hK hz k, hv, ho]
theorem zeroInt (w : World) : (zeroValue 3).run Tryz.prog w = .ok (.int .i64 0) w := by kernel_rfl
set_option maxHeartbeats 1000000 in
theorem glyph_ok (w : World) (rb p gm : Nat) (gl : Gl) (err : Int) (t : B) (h : Rdr w rb p err) (hm : GmAt w p gm gl) :
    Calls Tryz.prog 132 #[.pointer (some ⟨rb, 0, none⟩), .string ⟨t.toArray⟩] w (RdP w rb p (eGl gl err t) (.int .i64 (vGl gl t))) := by
  have c0 : w.cell? ⟨rb, 0, none⟩ = some (.pointer (some ⟨p, 0, none⟩)) := h.cell 0
  have c10 := hm.cell
  have H := Lib.hid h
  cases hk : gl.lookup t with
  | some n =>
    have hl : ∀ w', w' = w → (Instr.lookup 112 (.map (some gm)) (.string ⟨t.toArray⟩) true).run Tryz.prog w' = .ok (.tuple #[.int .i64 (vGl gl t), .bool true]) w' := fun w' e => by
      subst e
      exact hm.map.lookB Tryz.underlying112 Tryz.underlying9 (zeroInt _) t (by rw [hk, vGl, hk]; rfl) (by rw [hk]; rfl)
    have hl := hl w rfl
    have e1 : Hid (eGl gl err t = err) := by show _ = _; rw [eGl, hk]; simp
    clear h hm hk
    go_enter Tryz.func132, Tryz.ntmps132
    go_wp2
    go_ret
    rw [e1.out]
    exact ⟨rfl, H.out, World.grownBy.refl _ _⟩
  | none =>
    have hl : (Instr.lookup 112 (.map (some gm)) (.string ⟨t.toArray⟩) true).run Tryz.prog w = .ok (.tuple #[.int .i64 (vGl gl t), .bool false]) w :=
      hm.map.lookB Tryz.underlying112 Tryz.underlying9 (zeroInt _) t (by rw [hk, vGl, hk]; rfl) (by rw [hk]; rfl)
    have e1 : Hid (eGl gl err t = eC err 23) := by show _ = _; rw [eGl, hk, eC]; simp
    clear h hm hk
    go_enter Tryz.func132, Tryz.ntmps132
    go_wp2_with (go_at_call 164; refine (fail_ok _ rb p err 23 H.out).mono ?_; rintro e w2 ⟨rfl, hr2, hg2⟩)
    go_ret
    rw [e1.out]
    exact ⟨rfl, hr2, hg2⟩
set_option maxHeartbeats 1000000 in
theorem read_ok (w : World) (p : Nat) : Calls Tryz.prog 121 #[.pointer (some ⟨p, 0, none⟩)] w fun e w' => e = .returned (.pointer (some ⟨w.heap.size, 0, none⟩)) ∧ Rdr w' w.heap.size p 0 ∧ Below w.heap.size w w' := by
  go_enter Tryz.func121, Tryz.ntmps121
  go_wp2
  go_ret
  exact ⟨rfl, Bk.new _ _ _, (Below.refl _ _).alloc (Nat.le_refl _) _⟩
end Go.Proofs.YtkijckccfookeaaGreatDoor
