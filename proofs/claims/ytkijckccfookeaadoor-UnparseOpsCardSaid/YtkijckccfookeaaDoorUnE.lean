/- unparse: contour. -/
import Derived.Test.YtkijckccfookeaaDoorUnD
import Derived.Laws.Concat
namespace Go.Proofs.YtkijckccfookeaaDoor
open Go.RowKit Go.Sort

theorem app_name (a b : B) (ha : a.length ≤ 1000000) (hb : b.length ≤ 1000000) : ∃ u : B, (∀ w, (Op.stringOp .add ⟨a.toArray⟩ ⟨b.toArray⟩).run Tryd.prog w = .ok (.string ⟨u.toArray⟩) w) ∧ u.length ≤ a.length + b.length ∧ Hid (u = a ++ b) :=
  ⟨a ++ b, fun w => run_string_add_lists w a b (by omega) (by omega), by simp, rfl⟩
set_option maxRecDepth 100000 in
set_option maxHeartbeats 2000000 in
theorem contour_ok (w : World) (Bd g : Nat) (fc : Nat → Value) (txt : B) (A : Option Addr) (c : Nat) (l : List Pt) (hT : Tabs w) (hp : Pr w Bd g fc txt) (hBd : Bd ≤ w.heap.size) (hA : Sl PtR 3 w (FT w) A l) (hl : l.length ≤ 10000000000) (hlen : txt.length + (lineB sContour (l.map ptB)).length ≤ 1000000000000) :
    Calls Tryd.prog 46 #[.pointer (some ⟨g, 0, none⟩), .slice A l.length c] w fun e w' => e = .returned (.tuple #[]) ∧ Pr w' Bd g fc (txt ++ lineB sContour (l.map ptB)) ∧ KP w w' ∧ Below Bd w w' := by
  have hTL : (l.map ptB).length ≤ l.length := by simp
  go_enter Tryd.func46, Tryd.ntmps46
  go_wp2
  go_loopw [4, 10] (fun v i wr => ∃ k : Nat, k ≤ l.length ∧ i = .int .i64 k ∧ RowS w ((l.take k).map ptB) v wr) (fun _ i _ => l.length - (intOf i).toNat)
  case atStart => exact ⟨0, Nat.zero_le _, rfl, by simpa using RowS.nil w⟩
  case round =>
    obtain ⟨k, hk, rfl, A3, c3, rfl, hown, hbl⟩ := hrel
    have hlk : ((l.take k).map ptB).length ≤ k := by simp; omega
    by_cases hlt : k < l.length
    · obtain ⟨b, o, x, rfl, -, hx, q0, q1, q2, r0, r1⟩ := ((KP.below hbl).sl PtR.ok hA).pt hlt
      have HS := Lib.hid (map_take_snoc ptB l k x hx.out)
      generalize hws : (l.take k).map ptB = ws at *
      have s0 := hbl.size
      have hN0 : RowN w ws ws.length A3 c3 wr := ⟨rfl, hown, hbl⟩
      have hll : ws.length ≤ 100000000000 := by omega
      obtain ⟨x0, x1, on⟩ := x
      dsimp only at q0 q1 q2 r0 r1
      have hT1 := hT.all hbl
      have n0 := Lib.hid (fun w hT => number_ok w x0 hT r0)
      have n1 := Lib.hid (fun w hT => number_ok w x1 hT r1)
      have l0 := itB_len r0
      have l1 := itB_len r1
      have HP : Hid (ptB ⟨x0, x1, on⟩ = itB x0 ++ 44 :: itB x1 ++ if on then [] else [42]) := rfl
      generalize itB x0 = t0 at *
      generalize itB x1 = t1 at *
      obtain ⟨u1, a1, m1, U1⟩ := app_name t0 [44] (by omega) (by simp)
      obtain ⟨u2, a2, m2, U2⟩ := app_name u1 t1 (by simp only [List.length_cons, List.length_nil] at m1; omega) (by omega)
      obtain ⟨u3, a3, m3, U3⟩ := app_name u2 [42] (by simp only [List.length_cons, List.length_nil] at m1; omega) (by simp)
      simp only [List.length_cons, List.length_nil] at m1 m3
      clear hx hws hlk r0 r1
      go_wp2_with fail
      obtain ⟨W1, hW1⟩ : ∃ W1, wr.alloc (.cells #[.int .i64 x0, .int .i64 x1, .bool on] 146) = W1 := ⟨_, rfl⟩
      rw [hW1]
      have hb0 : Below wr.heap.size wr W1 := by rw [← hW1]; exact (Below.refl _ _).alloc (Nat.le_refl _) _
      have hT2 := hT1.all hb0
      have k0 : W1.cell? ⟨wr.heap.size, 0, none⟩ = some (.int .i64 x0) := by rw [← hW1]; simp [go_sem]
      have k1 : W1.cell? ⟨wr.heap.size, 1, none⟩ = some (.int .i64 x1) := by rw [← hW1]; simp [go_sem]
      have k2 : W1.cell? ⟨wr.heap.size, 2, none⟩ = some (.bool on) := by rw [← hW1]; simp [go_sem]
      have z0 := hb0.size
      clear hW1 q0 q1 q2
      go_region_held3 (fun w' => w'.cell? ⟨wr.heap.size, 0, none⟩ = some (.int .i64 x0) ∧ w'.cell? ⟨wr.heap.size, 1, none⟩ = some (.int .i64 x1))
        (first
          | exact ⟨cellB hc2 k0, cellB hc2 k1⟩
          | exact ⟨cellB hc1 k0, cellB hc1 k1⟩
          | go_keep)
        (first
          | (go_at_call 21; refine (n0.out _ hT2.drew).mono ?_; rintro e w1 ⟨rfl, hb1⟩; have hc1 := unDrew hb1; have z1 := hc1.size)
          | (go_at_call 21; refine (n1.out _ (hT2.all hc1)).mono ?_; rintro e w2 ⟨rfl, hb2⟩; have hc2 := bt hc1 hb2; have z2 := hc2.size))
      have k3 := cellB hc2 k2
      have hbw := bt hb0 hc2
      cases on with
      | true =>
        go_wp2_with (at_builtin; refine push_str rfl (.tmp 27) (.tmp 29) rfl w2 w.heap.size ws.length c3 A3 (strs ws) u2 rfl rfl (own_below hown hbw) (by omega) (by omega) ?_; intro A4 c4 w4 ho4 hg4)
        have hN4 := hN0.next (us := [u2]) hbw ho4 hg4
        go_roundw
        case rel => exact ⟨k + 1, by omega, by simp, by rw [HS.out, HP.out]; rw [U2.out, U1.out] at hN4; simpa using hN4.s⟩
        case measure => simp [intOf]; omega
      | false =>
        go_wp2_with (at_builtin; refine push_str rfl (.tmp 27) (.tmp 29) rfl w2 w.heap.size ws.length c3 A3 (strs ws) u3 rfl rfl (own_below hown hbw) (by omega) (by omega) ?_; intro A4 c4 w4 ho4 hg4)
        have hN4 := hN0.next (us := [u3]) hbw ho4 hg4
        go_roundw
        case rel => exact ⟨k + 1, by omega, by simp, by rw [HS.out, HP.out]; rw [U3.out, U2.out, U1.out] at hN4; simpa using hN4.s⟩
        case measure => simp [intOf]; omega
    · obtain rfl : k = l.length := by omega
      have HL : Hid ((l.take l.length).map ptB = l.map ptB) := by show _ = _; rw [List.take_length]
      rw [← HL.out] at hlen hTL
      generalize hws : (l.take l.length).map ptB = ws at *
      have hb3 := hp.below hbl
      have hs3 := own_sl hown
      have hw3 : ws.length ≤ 1000000000000 := by omega
      clear hws hlk
      go_wp2_with (go_at_call 20; ((with_reducible refine (line_ok _ Bd g fc txt sContour A3 c3 ws hb3 hs3 hlen hw3).mono ?_); rintro e w4 ⟨rfl, hp4, hk4, hb4⟩))
      go_end0
      rw [← HL.out]
      exact ⟨rfl, hp4, (KP.below hbl).trans hk4, (hbl.mono hBd).trans hb4⟩
end Go.Proofs.YtkijckccfookeaaDoor
