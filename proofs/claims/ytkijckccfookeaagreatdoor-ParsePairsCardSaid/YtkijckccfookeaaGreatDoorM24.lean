/- parse: cutRule, the walk. -/
import Derived.Test.YtkijckccfookeaaGreatDoorM23
import Derived.Test.YtkijckccfookeaaGreatDoorM04
import Derived.Test.YtkijckccfookeaaGreatDoorShelf
import Derived.Laws.ResultCell
import Derived.Laws.Rows
import Derived.Lib.SlicesCompact
import Derived.Sort.OwnSortedInts
import Derived.Lib.RowBridge
namespace Go.Proofs.YtkijckccfookeaaGreatDoor
open Go.RowKit
attribute [-go_sem] Builtin.append_

theorem CutSt.start (w : World) (ws : List P3) : CutSt w ws 0 0 ((w.alloc (.cells #[.slice none 0 0, .slice none 0 0, .slice none 0 0, .slice none 0 0] tArr)).alloc (.cells #[.string ⟨#[47]⟩, .string ⟨#[47]⟩, .string ⟨#[62]⟩] tCuts)) := by
  have h1 : Bk (w.alloc (.cells #[.slice none 0 0, .slice none 0 0, .slice none 0 0, .slice none 0 0] tArr)) w.heap.size tArr (cutCells [] (.slice none 0 0)) := Bk.new _ _ _
  have h2 := h1.alloc (.cells #[.string ⟨#[47]⟩, .string ⟨#[47]⟩, .string ⟨#[62]⟩] tCuts)
  have h3 : Bk ((w.alloc (.cells #[.slice none 0 0, .slice none 0 0, .slice none 0 0, .slice none 0 0] tArr)).alloc (.cells #[.string ⟨#[47]⟩, .string ⟨#[47]⟩, .string ⟨#[62]⟩] tCuts)) (w.heap.size + 1) tCuts cutStrs := by
    have := Bk.new (w.alloc (.cells #[.slice none 0 0, .slice none 0 0, .slice none 0 0, .slice none 0 0] tArr)) tCuts cutStrs
    simpa [cutStrs] using this
  refine ⟨[], [], [], none, 0, _, rfl, rfl, by omega, by simp, rfl, ?_, by simp, RowsIn.nil _ _, World.grownBy.refl _ _, World.ownsRow_nil _ _ _ _, h2, h3, ⟨_, h2⟩⟩
  exact ((Below.refl _ _).alloc (Nat.le_refl _) _).alloc (by simp) _
theorem RowsIn.slices {t : TypeId} {w : World} {hs : List Value} {rows : List (List P3)} (h : RowsIn t w hs rows) : ∀ u ∈ hs, ∃ A n c, u = .slice A n c := by
  intro u hu
  obtain ⟨i, hi⟩ := List.mem_iff_getElem?.1 hu
  have hl : i < rows.length := by rw [← h.1]; exact (List.getElem?_eq_some_iff.1 hi).1
  obtain ⟨A, k, c, h1, -, -⟩ := h.2 i rows[i] (List.getElem?_eq_getElem hl)
  rw [hi] at h1
  cases h1
  exact ⟨A, k, c, rfl⟩
theorem cut_fourS (hs : List Value) (A : Option Addr) (n c : Nat) (h : hs.length ≤ 3) (hsl : ∀ u ∈ hs, ∃ A n c, u = Value.slice A n c) : ∃ A0 n0 c0 A1 n1 c1 A2 n2 c2 A3 n3 c3, cutCells hs (.slice A n c) = #[.slice A0 n0 c0, .slice A1 n1 c1, .slice A2 n2 c2, .slice A3 n3 c3] := by
  obtain ⟨a, b, c', d, e⟩ := cut_four hs (.slice A n c) h
  have hall : ∀ u ∈ (cutCells hs (.slice A n c)).toList, ∃ A n c, u = Value.slice A n c := by
    intro u hu
    simp only [cutCells, List.mem_append, List.mem_singleton, List.mem_replicate] at hu
    rcases hu with (hu | rfl) | ⟨_, rfl⟩
    · exact hsl u hu
    · exact ⟨_, _, _, rfl⟩
    · exact ⟨_, _, _, rfl⟩
  rw [e] at hall
  obtain ⟨A0, n0, c0, rfl⟩ := hall a (by simp)
  obtain ⟨A1, n1, c1, rfl⟩ := hall b (by simp)
  obtain ⟨A2, n2, c2, rfl⟩ := hall c' (by simp)
  obtain ⟨A3, n3, c3, rfl⟩ := hall d (by simp)
  exact ⟨_, _, _, _, _, _, _, _, _, _, _, _, e⟩
theorem st4_bk {W : World} {g : Nat} {t : TypeId} {a b c d : Value} (h : Bk W g t #[a, b, c, d]) : Bk ((((W.setCell ⟨g, 0, none⟩ a).setCell ⟨g, 1, none⟩ b).setCell ⟨g, 2, none⟩ c).setCell ⟨g, 3, none⟩ d) g t #[a, b, c, d] := by
  have := (((h.set 0 a).set 1 b).set 2 c).set 3 d
  simpa using this
theorem st4_low {w W : World} {g : Nat} (h : Below w.heap.size w W) (hg : w.heap.size ≤ g) (a b c d : Value) : Below w.heap.size w ((((W.setCell ⟨g, 0, none⟩ a).setCell ⟨g, 1, none⟩ b).setCell ⟨g, 2, none⟩ c).setCell ⟨g, 3, none⟩ d) :=
  (((h.setCell hg a).setCell hg b).setCell hg c).setCell hg d
theorem st4_grown (W : World) (g : Nat) (a b c d : Value) : W.grownBy ((((W.setCell ⟨g, 0, none⟩ a).setCell ⟨g, 1, none⟩ b).setCell ⟨g, 2, none⟩ c).setCell ⟨g, 3, none⟩ d) (some g) :=
  grown_tr (grown_tr (grown_tr (grown_set W ⟨g, 0, none⟩ a) (grown_set _ ⟨g, 1, none⟩ b)) (grown_set _ ⟨g, 2, none⟩ c)) (grown_set _ ⟨g, 3, none⟩ d)
theorem infoArr : (Tryz.prog.info? tArr).map (·.size) = some 4 := by kernel_rfl
theorem results_cut {W : World} {g : Nat} {a b c d v : Value} {tmps : Array Value} (hb : Bk W g tArr #[a, b, c, d]) (h2 : tmps.getD 2 undef = .pointer (some ⟨g, 0, none⟩)) (h3 : tmps.getD 3 undef = v) : (results Tryz.f134 tmps).run Tryz.prog W = .ok (.tuple #[.agg #[a, b, c, d], v]) W := by
  rw [results_cell_tmp (fn := Tryz.f134) (p := 2) (u := 3) (ty := tArr) rfl, h2, h3]
  have := run_loadVar_row (P := Tryz.prog) W g tArr tArr #[a, b, c, d] (0, 0) _ hb Tryz.underlying208 rfl (by rw [infoArr]; rfl)
  simp [asAddr, Result.andThen, this]
set_option maxRecDepth 100000 in
set_option maxHeartbeats 4000000 in
theorem cutRule_ok (w : World) (A : Option Addr) (n c : Nat) (ws : List P3) (hr : RdT w tWd A n 3 (c3s ws)) (hn : n ≤ 1000000000) :
    Calls Tryz.prog 134 #[.slice A n c] w (CutPost w ws) := by
  have hwl := Lib.hid hr.rd.len3
  have HW := Lib.hid hr
  have HS := Lib.hid (CutSt.start w ws)
  clear hr
  go_enter Tryz.func134, Tryz.ntmps134
  go_wp2_with fail
  go_loopw [5, 11] (fun pv i wr => ∃ k np : Nat, k ≤ n ∧ i = .int .i64 k ∧ pv = .int .i64 np ∧ CutSt w ws k np wr) (fun _ i _ => n - (intOf i).toNat)
  case atStart => exact ⟨0, 0, by omega, rfl, rfl, HS.out⟩
  case round =>
    obtain ⟨k, np, hk, rfl, rfl, hst⟩ := hrel
    have hlow := hst.low
    obtain ⟨told, hs, cur, A1, c1, Wo, h1, h2, h3, h4, h5, h6, h7, h8, h9, h10, h11, h12, cs0, h13⟩ := hst
    by_cases hlt : k < n
    · obtain ⟨b, o, x, y, z, rfl, hb, hp, q1, q2, q3⟩ := HW.out.rd.at3 hlt
      have p1 : wr.cell? ⟨b, o + k * 3, none⟩ = some (.int .i64 x) := ((bcell hlow).1 _ _ hb).trans q1
      have p2 : wr.cell? ⟨b, o + k * 3 + 1, none⟩ = some (.int .i64 y) := ((bcell hlow).1 _ _ hb).trans q2
      have p3 : wr.cell? ⟨b, o + k * 3 + 2, none⟩ = some (.string ⟨z.toArray⟩) := ((bcell hlow).1 _ _ hb).trans q3
      have a_n : wr.cell? ⟨w.heap.size, np, none⟩ = some (.slice A1 cur.length c1) := (h11.cell np).trans (by rw [← h1]; exact cutC_at hs _)
      have hsw : w.heap.size < wr.heap.size := h11.lt
      have hn4 : (np : Int) < 4 := by omega
      by_cases hA : z ≠ [47] ∧ z ≠ [62]
      · have e1 : (z == [47]) = false := by simpa using hA.1
        have e2 : (z == [62]) = false := by simpa using hA.2
        obtain ⟨A5, c5, w9, hrun, ho9, hg9, hl9⟩ := run_push elWord 119 (wr.alloc (.cells #[.int .i64 x, .int .i64 y, .string ⟨z.toArray⟩] tWd)) Wo.heap.size cur.length c1 A1 (c3s cur) #[.int .i64 x, .int .i64 y, .string ⟨z.toArray⟩] rfl (h10.alloc _) (by simp [Value.oneCell']) (by omega) (by have := h9.size; simp; omega)
        have hszA : (wr.alloc (.cells #[.int .i64 x, .int .i64 y, .string ⟨z.toArray⟩] tWd)).heap.size = wr.heap.size + 1 := by simp
        rw [hszA] at hrun
        have Hnx := Lib.hid (CutSt.more h1 h2 h3 h4 h5 h6 h7 h8 h9 h10 h11 h12 hp.out hA.1 hA.2 _ ho9 hg9 h13)
        have b9 : Bk w9 w.heap.size tArr (cutCells hs (.slice A1 cur.length c1)) := Bk.grown (h11.alloc _) hg9 (h10.alloc _) (by decide)
        have x9 : w9.cell? ⟨w.heap.size, np, none⟩ = some (.slice A1 cur.length c1) := (b9.cell np).trans (by rw [← h1]; exact cutC_at hs _)
        have y9 := b9.frozen np
        clear hszA ho9 hg9 hl9 b9 h1 h2 h4 h5 h6 h7 h8 h9 h10 h11 h12 h13 hA hp hlow q1 q2 q3
        go_wp2_with fail
        go_region
        all_goals
          go_wp2
          go_roundw
          case rel => exact ⟨k + 1, np, by omega, by simp, rfl, Hnx.out⟩
          case measure => simp [intOf]; omega
      · have q0 : z = [47] ∨ z = [62] := by
          by_cases hz : z = [47]
          · exact .inl hz
          · exact .inr (Classical.byContradiction fun h => hA ⟨hz, h⟩)
        have hlowA : Below w.heap.size w (wr.alloc (.cells #[.int .i64 x, .int .i64 y, .string ⟨z.toArray⟩] tWd)) := hlow.alloc (by omega) _
        have cn0 : np < 3 → wr.cell? ⟨w.heap.size + 1, np, none⟩ = some (.string ⟨(if np < 2 then [47] else [62] : B).toArray⟩) := fun h => by
          rw [h12.cell np]
          have : np = 0 ∨ np = 1 ∨ np = 2 := by omega
          rcases this with rfl | rfl | rfl <;> rfl
        obtain ⟨X0, m0, e0, X1, m1, e1', X2, m2, e2', X3, m3, e3', hcs⟩ := cut_fourS hs A1 cur.length c1 (by omega) h8.slices
        have g0 : wr.cell? ⟨w.heap.size, 0, none⟩ = some (.slice X0 m0 e0) := (h11.cell 0).trans (by rw [hcs]; rfl)
        have g1 : wr.cell? ⟨w.heap.size, 1, none⟩ = some (.slice X1 m1 e1') := (h11.cell 1).trans (by rw [hcs]; rfl)
        have g2 : wr.cell? ⟨w.heap.size, 2, none⟩ = some (.slice X2 m2 e2') := (h11.cell 2).trans (by rw [hcs]; rfl)
        have g3 : wr.cell? ⟨w.heap.size, 3, none⟩ = some (.slice X3 m3 e3') := (h11.cell 3).trans (by rw [hcs]; rfl)
        have gf := h11.frozen
        have HLow := Lib.hid hlow
        have HLowA := Lib.hid hlowA
        by_cases hm : (np < 2 ∧ z = [47]) ∨ (np = 2 ∧ z = [62])
        · have hnp : np < 3 := by rcases hm with ⟨h, _⟩ | ⟨h, _⟩ <;> omega
          have c_n := cn0 hnp
          have hsw1 : w.heap.size + 1 < wr.heap.size := h12.lt
          have HD : Hid (∀ nd, CutSt w ws (k + 1) (np + 1) ((wr.alloc (.cells #[.int .i64 x, .int .i64 y, .string ⟨z.toArray⟩] tWd)).drewN nd)) := fun nd => CutSt.next h1 h2 h5 h6 h7 h8 h9 h10 h11 h12 h13 hp.out hm (below_drewN ((Below.refl _ _).alloc (Nat.le_refl _) _) nd)
          have hn3 : ((np : Int) == 3) = false := by simp; omega
          rcases hm with ⟨hm1, rfl⟩ | ⟨rfl, rfl⟩
          · rw [if_pos hm1] at c_n
            clear hm1 cn0 h1 h2 h4 h5 h6 h7 h8 h9 h10 h11 h12 h13 hA hp hlow hlowA q1 q2 q3 q0 hcs
            go_wp2_with fail
            go_quiet (fail)
            go_wp2
            go_roundw
            case rel => exact ⟨k + 1, _, by omega, by simp, by simp, HD.out nq⟩
            case measure => simp [intOf]; omega
          · rw [if_neg (by decide)] at c_n
            clear hnp cn0 h1 h2 h4 h5 h6 h7 h8 h9 h10 h11 h12 h13 hA hp hlow hlowA q1 q2 q3 q0 hcs
            go_wp2_with fail
            go_quiet (fail)
            go_wp2
            go_roundw
            case rel => exact ⟨k + 1, _, by omega, by simp, by simp, HD.out nq⟩
            case measure => simp [intOf]; omega
        · have HN := Lib.hid (cut_bad h5 hp.out q0 hm)
          have HB4 : Hid (∀ nd, Bk ((wr.alloc (.cells #[.int .i64 x, .int .i64 y, .string ⟨z.toArray⟩] tWd)).drewN nd) w.heap.size tArr #[.slice X0 m0 e0, .slice X1 m1 e1', .slice X2 m2 e2', .slice X3 m3 e3']) := fun nd => by rw [← hcs]; exact h11.alloc _
          have hcases : (np = 3 ∧ (z = [47] ∨ z = [62])) ∨ (np < 2 ∧ z = [62]) ∨ (np = 2 ∧ z = [47]) := by
            by_cases h3e : np = 3
            · exact .inl ⟨h3e, q0⟩
            · by_cases h2e : np = 2
              · rcases q0 with h | h
                · exact .inr (.inr ⟨h2e, h⟩)
                · exact absurd (.inr ⟨h2e, h⟩) hm
              · rcases q0 with h | h
                · exact absurd (.inl ⟨by omega, h⟩) hm
                · exact .inr (.inl ⟨by omega, h⟩)
          have hsw1 : w.heap.size + 1 < wr.heap.size := h12.lt
          have fin2 : ∀ nd tmps, tmps.getD 2 undef = .pointer (some ⟨w.heap.size, 0, none⟩) → tmps.getD 3 undef = .bool false → bodyPost Tryz.prog Tryz.f134 (CutPost w ws) Exit.ret ⟨tmps, []⟩ (((((((wr.alloc (.cells #[.int .i64 x, .int .i64 y, .string ⟨z.toArray⟩] tWd)).drewN nd).setCell ⟨w.heap.size, 0, none⟩ (.slice X0 m0 e0)).setCell ⟨w.heap.size, 1, none⟩ (.slice X1 m1 e1')).setCell ⟨w.heap.size, 2, none⟩ (.slice X2 m2 e2')).setCell ⟨w.heap.size, 3, none⟩ (.slice X3 m3 e3'))) := fun nd tmps t2 t3 => by
            refine bodyPost_ret (results_cut (st4_bk (HB4.out nd)) t2 t3) rfl ⟨st4_low (below_drewN HLowA.out nd) (Nat.le_refl _) _ _ _ _, X0, m0, e0, X1, m1, e1', X2, m2, e2', X3, m3, e3', ?_⟩
            rw [HN.out]
          have FIN := Lib.hid fin2
          rcases hcases with ⟨rfl, rfl | rfl⟩ | ⟨h1n, rfl⟩ | ⟨rfl, rfl⟩
          · skip
            clear fin2 cn0 h1 h2 h4 h5 h6 h7 h8 h9 h10 h11 h12 h13 hA hp hlow hlowA q1 q2 q3 q0 hcs hm
            go_wp2_with fail
            go_quiet (fail)
            go_wp2
            (try simp only [Exit.inBlock, Exit.then])
            exact FIN.out nq _ rfl rfl
          · skip
            clear fin2 cn0 h1 h2 h4 h5 h6 h7 h8 h9 h10 h11 h12 h13 hA hp hlow hlowA q1 q2 q3 q0 hcs hm
            go_wp2_with fail
            go_quiet (fail)
            go_wp2
            (try simp only [Exit.inBlock, Exit.then])
            exact FIN.out nq _ rfl rfl
          · skip
            have hn3 : ((np : Int) == 3) = false := by simp; omega
            have c_n := cn0 (by omega)
            rw [if_pos h1n] at c_n
            clear fin2 cn0 h1 h2 h4 h5 h6 h7 h8 h9 h10 h11 h12 h13 hA hp hlow hlowA q1 q2 q3 q0 hcs hm
            go_wp2_with fail
            go_quiet (fail)
            go_wp2
            (try simp only [Exit.inBlock, Exit.then])
            exact FIN.out nq _ rfl rfl
          · skip
            have c_n := cn0 (by omega)
            rw [if_neg (by decide)] at c_n
            clear fin2 cn0 h1 h2 h4 h5 h6 h7 h8 h9 h10 h11 h12 h13 hA hp hlow hlowA q1 q2 q3 q0 hcs hm
            go_wp2_with fail
            go_quiet (fail)
            go_wp2
            (try simp only [Exit.inBlock, Exit.then])
            exact FIN.out nq _ rfl rfl
    · obtain rfl : k = n := by omega
      have hend := cut_end h5 (by rw [hwl.out]; exact Nat.le_refl _)
      obtain ⟨X0, m0, e0, X1, m1, e1', X2, m2, e2', X3, m3, e3', hcs⟩ := cut_fourS hs A1 cur.length c1 (by omega) h8.slices
      have g0 : wr.cell? ⟨w.heap.size, 0, none⟩ = some (.slice X0 m0 e0) := (h11.cell 0).trans (by rw [hcs]; rfl)
      have g1 : wr.cell? ⟨w.heap.size, 1, none⟩ = some (.slice X1 m1 e1') := (h11.cell 1).trans (by rw [hcs]; rfl)
      have g2 : wr.cell? ⟨w.heap.size, 2, none⟩ = some (.slice X2 m2 e2') := (h11.cell 2).trans (by rw [hcs]; rfl)
      have g3 : wr.cell? ⟨w.heap.size, 3, none⟩ = some (.slice X3 m3 e3') := (h11.cell 3).trans (by rw [hcs]; rfl)
      have gf := h11.frozen
      have hb4 : Bk wr w.heap.size tArr #[.slice X0 m0 e0, .slice X1 m1 e1', .slice X2 m2 e2', .slice X3 m3 e3'] := by rw [← hcs]; exact h11
      have HB4 := Lib.hid hb4
      have HLow := Lib.hid hlow
      have hrows : np = 3 → RowsIn tWd wr [.slice X0 m0 e0, .slice X1 m1 e1', .slice X2 m2 e2', .slice X3 m3 e3'] (told ++ [cur]) := fun h3e => by
        have : (cutCells hs (.slice A1 cur.length c1)).toList = hs ++ [.slice A1 cur.length c1] := by simp [cutCells, h1, h3e]
        rw [hcs] at this
        have this : [.slice X0 m0 e0, .slice X1 m1 e1', .slice X2 m2 e2', .slice X3 m3 e3'] = hs ++ [.slice A1 cur.length c1] := this
        rw [this]
        exact (h8.keepW h13 h9 (by decide)).snoc (own_rdT h10) (own_cap h10)
      have HROWS := Lib.hid hrows
      have HEND := Lib.hid hend
      by_cases h3e : np = 3
      · have HEND2 : Hid (partsL ws = some (told ++ [cur])) := by show _ = _; rw [HEND.out, if_pos h3e]
        subst h3e
        clear hrows hend hb4 hcs h1 h2 h4 h5 h6 h7 h8 h9 h10 h11 h12 h13 hlow
        go_wp2_with fail
        (try simp only [Exit.inBlock, Exit.then])
        refine bodyPost_ret (results_cut (st4_bk HB4.out) rfl rfl) rfl ⟨st4_low HLow.out (Nat.le_refl _) _ _ _ _, X0, m0, e0, X1, m1, e1', X2, m2, e2', X3, m3, e3', ?_⟩
        rw [HEND2.out]
        exact ⟨rfl, (HROWS.out trivial).keepW HB4.out (st4_grown _ _ _ _ _ _) (by decide)⟩
      · have hn3 : ((np : Int) == 3) = false := by simp; omega
        have HEND2 : Hid (partsL ws = none) := by show _ = _; rw [HEND.out, if_neg h3e]
        clear hrows hend hb4 hcs h1 h2 h4 h5 h6 h7 h8 h9 h10 h11 h12 h13 hlow h3e
        go_wp2_with fail
        (try simp only [Exit.inBlock, Exit.then])
        refine bodyPost_ret (results_cut (st4_bk HB4.out) rfl rfl) rfl ⟨st4_low HLow.out (Nat.le_refl _) _ _ _ _, X0, m0, e0, X1, m1, e1', X2, m2, e2', X3, m3, e3', ?_⟩
        rw [HEND2.out]
        rfl
end Go.Proofs.YtkijckccfookeaaGreatDoor
/- Plain Lean: a set, as the library's sort and compact make it. -/
namespace Go.Proofs.YtkijckccfookeaaGreatDoor
open Go.Sort

theorem mem_insS (n x : Int) (l : List Int) : x ∈ insS n l ↔ x = n ∨ x ∈ l := by
  induction l with
  | nil => simp [insS]
  | cons y r ih =>
    rw [insS]
    split
    · simp
    · split
      · rename_i h
        subst h
        simp
      · rw [List.mem_cons, ih, List.mem_cons]
        constructor
        · rintro (h | h | h)
          · exact .inr (.inl h)
          · exact .inl h
          · exact .inr (.inr h)
        · rintro (h | h | h)
          · exact .inr (.inl h)
          · exact .inl h
          · exact .inr (.inr h)
theorem insS_up (n : Int) (l : List Int) (h : l.Pairwise (· < ·)) : (insS n l).Pairwise (· < ·) := by
  induction l with
  | nil => simp [insS]
  | cons y r ih =>
    rw [List.pairwise_cons] at h
    rw [insS]
    split
    · rename_i h1
      rw [List.pairwise_cons]
      refine ⟨fun a ha => ?_, List.pairwise_cons.2 h⟩
      rcases List.mem_cons.1 ha with rfl | ha
      · exact h1
      · have := h.1 a ha; omega
    · split
      · exact List.pairwise_cons.2 h
      · rw [List.pairwise_cons]
        refine ⟨fun a ha => ?_, ih h.2⟩
        rcases (mem_insS n a r).1 ha with rfl | ha
        · omega
        · exact h.1 a ha
theorem mem_setOf (x : Int) (l : List Int) : x ∈ setOf l ↔ x ∈ l := by
  induction l with
  | nil => simp [setOf]
  | cons y r ih =>
    show x ∈ insS y (setOf r) ↔ _
    rw [mem_insS, ih, List.mem_cons]
theorem setOf_up (l : List Int) : (setOf l).Pairwise (· < ·) := by
  induction l with
  | nil => exact List.Pairwise.nil
  | cons y r ih => exact insS_up y _ ih
theorem up_uniq (a b : List Int) (ha : a.Pairwise (· < ·)) (hb : b.Pairwise (· < ·)) (h : ∀ x, x ∈ a ↔ x ∈ b) : a = b := by
  induction a generalizing b with
  | nil =>
    cases b with
    | nil => rfl
    | cons y s => exact absurd ((h y).2 (by simp)) (by simp)
  | cons x r ih =>
    cases b with
    | nil => exact absurd ((h x).1 (by simp)) (by simp)
    | cons y s =>
      rw [List.pairwise_cons] at ha hb
      have hxy : x = y := by
        rcases List.mem_cons.1 ((h x).1 (by simp)) with e | hx
        · exact e
        · rcases List.mem_cons.1 ((h y).2 (by simp)) with e | hy
          · exact e.symm
          · have h1 := hb.1 x hx
            have h2 := ha.1 y hy
            omega
      subst hxy
      congr 1
      refine ih s ha.2 hb.2 fun z => ?_
      constructor
      · intro hz
        rcases List.mem_cons.1 ((h z).1 (by simp [hz])) with e | hs
        · have := ha.1 z hz; omega
        · exact hs
      · intro hz
        rcases List.mem_cons.1 ((h z).2 (by simp [hz])) with e | hs
        · have := hb.1 z hz; omega
        · exact hs
theorem comp_up (zs : List Int) (hs : zs.Pairwise (· ≤ ·)) (m : Nat) (hm : m ≤ zs.length) : (Lib.compactUpTo zs.toArray m).Pairwise (· < ·) ∧ (∀ x, x ∈ Lib.compactUpTo zs.toArray m ↔ x ∈ zs.take m) ∧ (∀ x, x ∈ Lib.compactUpTo zs.toArray m → 0 < m → x ≤ zs.toArray[m - 1]!) := by
  induction m with
  | zero => exact ⟨by simp [Lib.compactUpTo], by simp [Lib.compactUpTo], fun x _ h => by omega⟩
  | succ m ih =>
    obtain ⟨h1, h2, h3⟩ := ih (by omega)
    have hlt : m < zs.length := by omega
    have hd : zs.toArray[m]! = zs[m] := by simp [hlt]
    have htk : zs.take (m + 1) = zs.take m ++ [zs[m]] := (List.take_append_getElem hlt).symm
    rw [Lib.compactUpTo_succ, hd]
    cases hk : Lib.keeps zs.toArray m with
    | true =>
      have hlow : ∀ x ∈ Lib.compactUpTo zs.toArray m, x < zs[m] := by
        intro x hx
        by_cases h0 : m = 0
        · subst h0
          simp [Lib.compactUpTo] at hx
        · have hle := h3 x hx (by omega)
          have hne : zs.toArray[m]! ≠ zs.toArray[m - 1]! := by
            unfold Lib.keeps at hk
            rw [decide_eq_true_eq] at hk
            exact hk.resolve_left h0
          have hd1 : zs.toArray[m - 1]! = zs[m - 1] := by simp [show m - 1 < zs.length by omega]
          rw [hd, hd1] at hne
          rw [hd1] at hle
          have := List.pairwise_iff_getElem.1 hs (m - 1) m (by omega) hlt (by omega)
          omega
      refine ⟨?_, fun x => ?_, fun x hx _ => ?_⟩
      · simp only [if_true]
        rw [List.pairwise_append]
        exact ⟨h1, by simp, fun a ha b hb => by simp only [List.mem_singleton] at hb; subst hb; exact hlow a ha⟩
      · simp only [if_true]
        rw [htk, List.mem_append, List.mem_append, h2]
      · rw [Nat.add_sub_cancel, hd]
        simp only [if_true] at hx
        rcases List.mem_append.1 hx with h | h
        · exact Int.le_of_lt (hlow x h)
        · simp only [List.mem_singleton] at h
          omega
    | false =>
      have h0 : 0 < m := by
        rcases Nat.eq_zero_or_pos m with h | h
        · subst h
          simp [Lib.keeps] at hk
        · exact h
      have heq : zs.toArray[m]! = zs.toArray[m - 1]! := by
        unfold Lib.keeps at hk
        rw [decide_eq_false_iff_not] at hk
        by_cases h : zs.toArray[m]! = zs.toArray[m - 1]!
        · exact h
        · exact absurd (.inr h) hk
      have hd1 : zs.toArray[m - 1]! = zs[m - 1] := by simp [show m - 1 < zs.length by omega]
      rw [hd, hd1] at heq
      simp only [Bool.false_eq_true, if_false, List.append_nil]
      refine ⟨h1, fun x => ?_, fun x hx _ => ?_⟩
      · rw [htk, List.mem_append, h2, List.mem_singleton]
        constructor
        · exact .inl
        · rintro (h | h)
          · exact h
          · rw [h, heq]
            exact List.mem_take_iff_getElem.2 ⟨m - 1, by omega, rfl⟩
      · rw [Nat.add_sub_cancel, hd]
        have := h3 x hx h0
        rw [hd1] at this
        omega
theorem compact_setOf (l : List Int) : Lib.compact (l.mergeSort fun x y => decide (x ≤ y)) = setOf l := by
  have hs : (l.mergeSort fun x y => decide (x ≤ y)).Pairwise (· ≤ ·) := by
    have := List.pairwise_mergeSort (le := fun x y : Int => decide (x ≤ y)) (fun a b c h1 h2 => by simp only [decide_eq_true_eq] at *; omega) (fun a b => by simp only [Bool.or_eq_true, decide_eq_true_eq]; omega) l
    exact this.imp (fun h => by simpa using h)
  obtain ⟨h1, h2, -⟩ := comp_up _ hs _ (Nat.le_refl _)
  refine up_uniq _ _ h1 (setOf_up l) fun x => ?_
  show x ∈ Lib.compactUpTo _ _ ↔ _
  rw [h2, List.take_length, mem_setOf]
  exact (List.mergeSort_perm l _).mem_iff
theorem setOf_len (l : List Int) : (setOf l).length ≤ l.length := by
  have hi : ∀ n l, (insS n l).length ≤ l.length + 1 := by
    intro n l
    induction l with
    | nil => simp [insS]
    | cons y r ih =>
      rw [insS]
      split
      · simp
      · split
        · simp
        · simp only [List.length_cons]; omega
  induction l with
  | nil => simp [setOf]
  | cons y r ih =>
    show (insS y (setOf r)).length ≤ _
    have := hi y (setOf r)
    simp only [List.length_cons]
    omega
end Go.Proofs.YtkijckccfookeaaGreatDoor
/- parse: sets.Of; the rows of a rule, their sets. -/
namespace Go.Proofs.YtkijckccfookeaaGreatDoor
open Go.RowKit Go.Sort

theorem cIs_map (l : List Int) : cIs l = l.map (Value.int .i64) := by
  induction l with
  | nil => rfl
  | cons x r ih => rw [cIs_cons, ih]; rfl
/-- a shorter end of an own row -/
theorem own_cut {w : World} {base g n c m : Nat} {e : TypeId} {xs ys : List Value} (h : w.ownsRow base e 1 (.slice (some ⟨g, 0, none⟩) n c) n (xs ++ ys)) (hm : xs.length = m) (hle : m ≤ n) : w.ownsRow base e 1 (.slice (some ⟨g, 0, none⟩) m c) m xs := by
  rcases h.2 with ⟨h0, _⟩ | ⟨g', cap', cur, hv, hg, hh, hn, hcap, hs, htk⟩
  · cases h0
  · cases hv
    refine ⟨by omega, .inr ⟨g, c, cur, rfl, hg, hh, by omega, hcap, hs, ?_⟩⟩
    have h9 : (cur.toList.take (n * 1)).take m = (xs ++ ys).take m := by rw [htk]
    rw [List.take_take, Nat.min_eq_left (by omega), List.take_append_of_le_length (by omega), List.take_of_length_le (l := xs) (by omega)] at h9
    rw [Nat.mul_one]
    exact h9
set_option maxRecDepth 100000 in
set_option maxHeartbeats 2000000 in
theorem setsOf1_ok (w : World) (A : Option Addr) (n c : Nat) (l : List Int) {Bd : Nat} (hr : Rd w Bd A n 1 (cIs l)) (hn : n ≤ 1000000000) :
    Calls Tryz.prog 173 #[.slice A n c] w fun e w' => ∃ A' c', e = .returned (.slice A' (setOf l).length c') ∧ w'.ownsRow w.heap.size 3 1 (.slice A' (setOf l).length c') (setOf l).length (cIs (setOf l)) ∧ Below w.heap.size w w' := by
  have hl : l.length = n := by have := hr.1; simpa [cIs_map] using this
  rcases Nat.eq_zero_or_pos n with h0 | h0
  · subst h0
    obtain rfl : l = [] := List.eq_nil_of_length_eq_zero hl
    have hz : Hid (setOf [] = []) := rfl
    have hcl : Hid (Calls Tryz.prog 143 #[.slice A 0 c] w fun e w' => ∃ A' c', e = .returned (.slice A' 0 c') ∧ w'.ownsRow w.heap.size 3 1 (.slice A' 0 c') 0 [] ∧ Below w.heap.size w w') := by
      show Calls _ _ _ _ _
      cases A with
      | none =>
        refine (Tryz.slices_Clone_int_nil 0 c w).mono ?_
        rintro e w' ⟨rfl, rfl⟩
        exact ⟨none, 0, rfl, World.ownsRow_nil _ _ _ _, Below.refl _ _⟩
      | some a =>
        refine (Tryz.slices_Clone_int_zero a c w).mono ?_
        rintro e w' ⟨v, rfl, ho, -, hb⟩
        obtain ⟨A', c', rfl⟩ := own_slice ho
        exact ⟨A', c', rfl, ho, hb⟩
    clear hr hn hl
    go_enter Tryz.func173, Tryz.ntmps173
    go_wp2_with fail
    refine hcl.out.mono ?_
    rintro e w1 ⟨A', c', rfl, ho, hb⟩
    go_wp2_with fail
    refine (Tryz.slices_Sort_int_none A' c' w1).mono ?_
    rintro e w2 ⟨rfl, rfl⟩
    go_wp2_with fail
    refine (Tryz.slices_Compact_int_empty A' c' _).mono ?_
    rintro e w3 ⟨rfl, rfl⟩
    go_wp2
    go_ret
    rw [hz.out]
    exact ⟨A', c', rfl, ho, hb⟩
  · obtain ⟨b, o, rfl, hbk, hcur⟩ := hr.2 h0
    have hcl := Lib.hid (Tryz.slices_Clone_int b o n c l w (by omega) (by omega) (fun j hj => by
      refine hcur j _ ?_
      rw [cIs_map, List.getElem?_map, List.getElem?_eq_getElem hj]
      simp [List.getD, List.getElem?_eq_getElem hj]))
    subst hl
    rw [List.take_length] at hcl
    have hn' := hn
    clear hr hbk hcur
    go_enter Tryz.func173, Tryz.ntmps173
    go_wp2_with fail
    refine hcl.out.mono ?_
    rintro e w1 ⟨v, rfl, ho, hne, hb⟩
    obtain ⟨g, cap, cur, rfl, hg, hh, hnc, hcap, hs, htk⟩ : ∃ g cap cur, v = .slice (some ⟨g, 0, none⟩) l.length cap ∧ w.heap.size ≤ g ∧ w1.heap[g]? = some (.cells cur 3 (0, 0)) ∧ l.length ≤ cap ∧ cap ≤ maxLen ∧ cur.size = cap * 1 ∧ cur.toList.take l.length = l.map (Value.int .i64) := by
      rcases ho.2 with ⟨_, h⟩ | ⟨g, cap, cur, hv, hg, hh, hnc, hcap, hs, htk⟩
      · omega
      · exact ⟨g, cap, cur, hv, hg, hh, hnc, hcap, hs, by rw [Nat.mul_one] at htk; exact htk⟩
    have hgl : g < w1.heap.size := (Array.getElem?_eq_some_iff.1 hh).1
    have hH := holds_of_blockI hh htk
    have hsort := Lib.hid (Tryz.slices_Sort_int g 0 cap l w1 hH hgl (by omega))
    clear hne ho
    go_wp2_with fail
    refine hsort.out.mono ?_
    rintro e w2 ⟨rfl, q, os, hw2⟩
    have hml : (l.mergeSort fun x y => decide (x ≤ y)).length = l.length := List.length_mergeSort _
    have ho2 := ownsRow_sortedI (base := w.heap.size) (n := q) (os := os) hml hg hh hnc hcap hs
    have hg2 := grownBy_sortedI (w := w1) (g := g) (n := q) (os := os) (l.mergeSort fun x y => decide (x ≤ y)).toArray
    rw [← hw2] at ho2 hg2
    have hcs := compact_setOf l
    generalize (l.mergeSort fun x y => decide (x ≤ y)) = ms at *
    obtain ⟨cur2, hh2, hs2, htk2⟩ : ∃ cur2, w2.heap[g]? = some (.cells cur2 3 (0, 0)) ∧ cur2.size = cap * 1 ∧ cur2.toList.take ms.length = ms.map (Value.int .i64) := by
      rcases ho2.2 with ⟨h, _⟩ | ⟨g', cap', cur', hv, -, hh', -, -, hs', htk'⟩
      · cases h
      · cases hv
        exact ⟨cur', hh', hs', by rw [Nat.mul_one] at htk'; rw [hml]; exact htk'⟩
    have hcomp := Tryz.slices_Compact_int g 0 cap ms w2 (holds_of_blockI hh2 htk2) (by omega) (by omega)
    rw [hcs, hml] at hcomp
    have Hcomp := Lib.hid hcomp
    have hle := setOf_len l
    clear hsort hcl hcomp hw2 hh htk hH
    go_wp2_with fail
    refine Hcomp.out.mono ?_
    rintro e w3 ⟨rfl, q3, hw3⟩
    have hl3 : (setOf l ++ List.replicate (l.length - (setOf l).length) 0).length = l.length := by simp; omega
    have ho3 := ownsRow_sortedI (base := w.heap.size) (n := q3) (os := #[]) hl3 hg hh2 hnc hcap hs2
    have hg3 := grownBy_sortedI (w := w2) (g := g) (n := q3) (os := #[]) (setOf l ++ List.replicate (l.length - (setOf l).length) 0).toArray
    rw [grow_empty, ← hw3] at ho3 hg3
    rw [List.map_append, ← cIs_map] at ho3
    have Ho := Lib.hid (own_cut (m := (setOf l).length) ho3 (by simp [cIs_map]) hle)
    have Hb := Lib.hid ((hb.grown hg2 hb.size (fun k e => by cases e; exact hg)).grown hg3 (Nat.le_trans hb.size hg2.size) (fun k e => by cases e; exact hg))
    clear ho3 hg3 hw3 ho2 hg2
    go_wp2
    go_ret
    exact ⟨_, _, rfl, Ho.out, Hb.out⟩
end Go.Proofs.YtkijckccfookeaaGreatDoor
