/- unparse: rule. Printed by gen_rule.py. -/
import Derived.Test.YtkijckccfookeaaDoorUnE
namespace Go.Proofs.YtkijckccfookeaaDoor
open Go.RowKit Go.Sort

theorem RowN.len {w : World} {ws : List B} {n : Nat} {A : Option Addr} {c : Nat} {wr : World} (h : RowN w ws n A c wr) : n = ws.length := h.1
theorem line_n (w : World) (Bd g : Nat) (fc : Nat → Value) (txt first : B) (A : Option Addr) (c n : Nat) (ws : List B) (hn : n = ws.length) (h : Pr w Bd g fc txt) (hA : Sl StrR 1 w (FT w) A ws) (hlen : txt.length + (lineB first ws).length ≤ 1000000000000 ∧ ws.length ≤ 1000000000000) :
    Calls Tryd.prog 20 #[.pointer (some ⟨g, 0, none⟩), .string ⟨first.toArray⟩, .slice A n c] w fun e w' => e = .returned (.tuple #[]) ∧ Pr w' Bd g fc (txt ++ lineB first ws) ∧ KP w w' ∧ Below Bd w w' := by
  subst hn
  exact line_ok w Bd g fc txt first A c ws h hA hlen.1 hlen.2

set_option maxRecDepth 100000 in
set_option maxHeartbeats 4000000 in
theorem rule_1
    (w : World) (Bd g : Nat) (fc : Nat → Value) (txt : B) (A0 B1 B2 B3 B4 : Option Addr) (c0 d1 d2 d3 d4 : Nat) (back in' ahead : List (List Int)) (out : List Int) (calls : List Call) (x : Int) (sb si sa so : List B)
    (hp : Pr w Bd g fc txt) (hBd : Bd ≤ w.heap.size)
    (S0 : Hid (∀ w', Below w.heap.size w w' → Calls Tryd.prog 71 #[.pointer (some ⟨g, 0, none⟩), .slice A0 back.length c0] w' (RetS w' sb)))
    (S1 : Hid (∀ w', Below w.heap.size w w' → Calls Tryd.prog 71 #[.pointer (some ⟨g, 0, none⟩), .slice B1 in'.length d1] w' (RetS w' si)))
    (S2 : Hid (∀ w', Below w.heap.size w w' → Calls Tryd.prog 71 #[.pointer (some ⟨g, 0, none⟩), .slice B2 ahead.length d2] w' (RetS w' sa)))
    (hW : sb.length + si.length + sa.length + so.length + 3 ≤ 10000000000)
    (S3 : Hid (∀ w', Below w.heap.size w w' → Calls Tryd.prog 72 #[.pointer (some ⟨g, 0, none⟩), .slice B3 out.length d3] w' (RetS w' so)))
    (W : List B) (HE : Hid (W = sb ++ [[47]] ++ si ++ [[47]] ++ sa ++ [[62]] ++ so)) (HL : Hid (txt.length + (lineB sRule (sb ++ [[47]] ++ si ++ [[47]] ++ sa ++ [[62]] ++ so)).length ≤ 1000000000000 ∧ (sb ++ [[47]] ++ si ++ [[47]] ++ sa ++ [[62]] ++ so).length ≤ 1000000000000)) :
    Calls Tryd.prog 49 #[.pointer (some ⟨g, 0, none⟩), .int .i64 1, .agg #[.slice A0 back.length c0, .slice B1 in'.length d1, .slice B2 ahead.length d2, .slice B3 out.length d3, .slice B4 calls.length d4, .int .i64 x]] w
      fun e w' => e = .returned (.tuple #[]) ∧ Pr w' Bd g fc (txt ++ lineB sRule W) ∧ KP w w' ∧ Below Bd w w' := by
  go_enter Tryd.func49, Tryd.ntmps49
  go_wp2_with fail
  obtain ⟨W0, hW0⟩ : ∃ W0, w.alloc (.cells #[.slice A0 back.length c0, .slice B1 in'.length d1, .slice B2 ahead.length d2, .slice B3 out.length d3, .slice B4 calls.length d4, .int .i64 x] 78) = W0 := ⟨_, rfl⟩
  rw [hW0]
  have hbW : Below w.heap.size w W0 := by rw [← hW0]; exact (Below.refl _ _).alloc (Nat.le_refl _) _
  have k1 : W0.cell? ⟨w.heap.size, 1, none⟩ = some (.slice B1 in'.length d1) := by rw [← hW0]; simp [go_sem]
  have k2 : W0.cell? ⟨w.heap.size, 2, none⟩ = some (.slice B2 ahead.length d2) := by rw [← hW0]; simp [go_sem]
  have k3 : W0.cell? ⟨w.heap.size, 3, none⟩ = some (.slice B3 out.length d3) := by rw [← hW0]; simp [go_sem]
  have k4 : W0.cell? ⟨w.heap.size, 4, none⟩ = some (.slice B4 calls.length d4) := by rw [← hW0]; simp [go_sem]
  have k5 : W0.cell? ⟨w.heap.size, 5, none⟩ = some (.int .i64 x) := by rw [← hW0]; simp [go_sem]
  have z0 := hbW.size
  clear hW0
  refine (S0.out _ hbW).mono ?_
  rintro e w1 ⟨A1, c1, rfl, o1, b1⟩
  have N1 : RowN W0 sb sb.length A1 c1 w1 := ⟨rfl, o1, b1⟩
  have z1 := b1.size
  have q1_1 := cellB b1 k1
  have tk2 : True := trivial
  have tk3 : True := trivial
  have tk4 : True := trivial
  have tk5 : True := trivial
  have tk6 : True := trivial
  have tk7 : True := trivial
  have tk8 : True := trivial
  have tk9 : True := trivial
  have tk10 : True := trivial
  go_wp2_with (first
    | (at_builtin; have _t := tk2; refine push_str rfl (.tmp 13) (.tmp 14) rfl w1 W0.heap.size _ c1 A1 _ [47] rfl rfl o1 (by omega) (by omega) ?_; intro A2 c2 w2 p2 g2; clear _t tk2; have N2 := N1.next (us := [[47]]) (Below.refl _ _) p2 g2; have o2 := N2.2.1; have b2 := N2.2.2; have z2 := b2.size; have q1_2 := cellB b2 k1)
    | (go_at_call 71; have _t := tk3; refine (S1.out _ (bt hbW b2)).mono ?_; rintro e w3 ⟨A3, c3, rfl, o3, b3⟩; clear _t tk3; have z3 := b3.size)
    | (at_builtin; have _t := tk4; refine app_str rfl (.tmp 16) (.tmp 20) rfl w3 W0.heap.size _ c2 A2 _ w3.heap.size A3 _ c3 si rfl rfl (own_below o2 b3) (own_rd o3 rfl) (by omega) (by omega) ?_; intro A4 c4 w4 p4 g4; clear _t tk4; have N4 := N2.next (us := si) b3 p4 g4; have o4 := N4.2.1; have b4 := N4.2.2; have z4 := b4.size)
    | (at_builtin; have _t := tk5; refine push_str rfl (.tmp 22) (.tmp 23) rfl w4 W0.heap.size _ c4 A4 _ [47] rfl rfl o4 (by omega) (by omega) ?_; intro A5 c5 w5 p5 g5; clear _t tk5; have N5 := N4.next (us := [[47]]) (Below.refl _ _) p5 g5; have o5 := N5.2.1; have b5 := N5.2.2; have z5 := b5.size; have q2_5 := cellB b5 k2)
    | (go_at_call 71; have _t := tk6; refine (S2.out _ (bt hbW b5)).mono ?_; rintro e w6 ⟨A6, c6, rfl, o6, b6⟩; clear _t tk6; have z6 := b6.size)
    | (at_builtin; have _t := tk7; refine app_str rfl (.tmp 25) (.tmp 29) rfl w6 W0.heap.size _ c5 A5 _ w6.heap.size A6 _ c6 sa rfl rfl (own_below o5 b6) (own_rd o6 rfl) (by omega) (by omega) ?_; intro A7 c7 w7 p7 g7; clear _t tk7; have N7 := N5.next (us := sa) b6 p7 g7; have o7 := N7.2.1; have b7 := N7.2.2; have z7 := b7.size)
    | (at_builtin; have _t := tk8; refine push_str rfl (.tmp 31) (.tmp 32) rfl w7 W0.heap.size _ c7 A7 _ [62] rfl rfl o7 (by omega) (by omega) ?_; intro A8 c8 w8 p8 g8; clear _t tk8; have N8 := N7.next (us := [[62]]) (Below.refl _ _) p8 g8; have o8 := N8.2.1; have b8 := N8.2.2; have z8 := b8.size; have q3_8 := cellB b8 k3; have q4_8 := cellB b8 k4; have q5_8 := cellB b8 k5)
    | (go_at_call 72; have _t := tk9; refine (S3.out _ (bt hbW b8)).mono ?_; rintro e w9 ⟨A9, c9, rfl, o9, b9⟩; clear _t tk9; have z9 := b9.size)
    | (at_builtin; have _t := tk10; refine app_str rfl (.tmp 40) (.tmp 44) rfl w9 W0.heap.size _ c8 A8 _ w9.heap.size A9 _ c9 so rfl rfl (own_below o8 b9) (own_rd o9 rfl) (by omega) (by omega) ?_; intro A10 c10 w10 p10 g10; clear _t tk10; have N10 := N8.next (us := so) b9 p10 g10; have o10 := N10.2.1; have b10 := N10.2.2; have z10 := b10.size)
    | (go_at_call 20; ((with_reducible refine (line_n _ Bd g fc txt sRule A10 c10 _ _ N10.len (hp.below (bt hbW b10)) (own_sl o10) HL.out).mono ?_); rintro e wz ⟨rfl, hpz, hkz, hbz⟩)))
  go_end0
  refine ⟨rfl, ?_, (KP.below (bt hbW b10)).trans hkz, ((bt hbW b10).mono hBd).trans hbz⟩
  rw [HE.out]
  simpa [lineB] using hpz

set_option maxRecDepth 100000 in
set_option maxHeartbeats 4000000 in
theorem rule_2
    (w : World) (Bd g : Nat) (fc : Nat → Value) (txt : B) (A0 B1 B2 B3 B4 : Option Addr) (c0 d1 d2 d3 d4 : Nat) (back in' ahead : List (List Int)) (out : List Int) (calls : List Call) (x : Int) (sb si sa so : List B)
    (hp : Pr w Bd g fc txt) (hBd : Bd ≤ w.heap.size)
    (S0 : Hid (∀ w', Below w.heap.size w w' → Calls Tryd.prog 71 #[.pointer (some ⟨g, 0, none⟩), .slice A0 back.length c0] w' (RetS w' sb)))
    (S1 : Hid (∀ w', Below w.heap.size w w' → Calls Tryd.prog 71 #[.pointer (some ⟨g, 0, none⟩), .slice B1 in'.length d1] w' (RetS w' si)))
    (S2 : Hid (∀ w', Below w.heap.size w w' → Calls Tryd.prog 71 #[.pointer (some ⟨g, 0, none⟩), .slice B2 ahead.length d2] w' (RetS w' sa)))
    (hW : sb.length + si.length + sa.length + so.length + 3 ≤ 10000000000)
    (S3 : Hid (∀ w', Below w.heap.size w w' → Calls Tryd.prog 72 #[.pointer (some ⟨g, 0, none⟩), .slice B3 out.length d3] w' (RetS w' so)))
    (W : List B) (HE : Hid (W = sb ++ [[47]] ++ si ++ [[47]] ++ sa ++ [[62]] ++ so)) (HL : Hid (txt.length + (lineB sRule (sb ++ [[47]] ++ si ++ [[47]] ++ sa ++ [[62]] ++ so)).length ≤ 1000000000000 ∧ (sb ++ [[47]] ++ si ++ [[47]] ++ sa ++ [[62]] ++ so).length ≤ 1000000000000)) :
    Calls Tryd.prog 49 #[.pointer (some ⟨g, 0, none⟩), .int .i64 2, .agg #[.slice A0 back.length c0, .slice B1 in'.length d1, .slice B2 ahead.length d2, .slice B3 out.length d3, .slice B4 calls.length d4, .int .i64 x]] w
      fun e w' => e = .returned (.tuple #[]) ∧ Pr w' Bd g fc (txt ++ lineB sRule W) ∧ KP w w' ∧ Below Bd w w' := by
  go_enter Tryd.func49, Tryd.ntmps49
  go_wp2_with fail
  obtain ⟨W0, hW0⟩ : ∃ W0, w.alloc (.cells #[.slice A0 back.length c0, .slice B1 in'.length d1, .slice B2 ahead.length d2, .slice B3 out.length d3, .slice B4 calls.length d4, .int .i64 x] 78) = W0 := ⟨_, rfl⟩
  rw [hW0]
  have hbW : Below w.heap.size w W0 := by rw [← hW0]; exact (Below.refl _ _).alloc (Nat.le_refl _) _
  have k1 : W0.cell? ⟨w.heap.size, 1, none⟩ = some (.slice B1 in'.length d1) := by rw [← hW0]; simp [go_sem]
  have k2 : W0.cell? ⟨w.heap.size, 2, none⟩ = some (.slice B2 ahead.length d2) := by rw [← hW0]; simp [go_sem]
  have k3 : W0.cell? ⟨w.heap.size, 3, none⟩ = some (.slice B3 out.length d3) := by rw [← hW0]; simp [go_sem]
  have k4 : W0.cell? ⟨w.heap.size, 4, none⟩ = some (.slice B4 calls.length d4) := by rw [← hW0]; simp [go_sem]
  have k5 : W0.cell? ⟨w.heap.size, 5, none⟩ = some (.int .i64 x) := by rw [← hW0]; simp [go_sem]
  have z0 := hbW.size
  clear hW0
  refine (S0.out _ hbW).mono ?_
  rintro e w1 ⟨A1, c1, rfl, o1, b1⟩
  have N1 : RowN W0 sb sb.length A1 c1 w1 := ⟨rfl, o1, b1⟩
  have z1 := b1.size
  have q1_1 := cellB b1 k1
  have tk2 : True := trivial
  have tk3 : True := trivial
  have tk4 : True := trivial
  have tk5 : True := trivial
  have tk6 : True := trivial
  have tk7 : True := trivial
  have tk8 : True := trivial
  have tk9 : True := trivial
  have tk10 : True := trivial
  go_wp2_with (first
    | (at_builtin; have _t := tk2; refine push_str rfl (.tmp 13) (.tmp 14) rfl w1 W0.heap.size _ c1 A1 _ [47] rfl rfl o1 (by omega) (by omega) ?_; intro A2 c2 w2 p2 g2; clear _t tk2; have N2 := N1.next (us := [[47]]) (Below.refl _ _) p2 g2; have o2 := N2.2.1; have b2 := N2.2.2; have z2 := b2.size; have q1_2 := cellB b2 k1)
    | (go_at_call 71; have _t := tk3; refine (S1.out _ (bt hbW b2)).mono ?_; rintro e w3 ⟨A3, c3, rfl, o3, b3⟩; clear _t tk3; have z3 := b3.size)
    | (at_builtin; have _t := tk4; refine app_str rfl (.tmp 16) (.tmp 20) rfl w3 W0.heap.size _ c2 A2 _ w3.heap.size A3 _ c3 si rfl rfl (own_below o2 b3) (own_rd o3 rfl) (by omega) (by omega) ?_; intro A4 c4 w4 p4 g4; clear _t tk4; have N4 := N2.next (us := si) b3 p4 g4; have o4 := N4.2.1; have b4 := N4.2.2; have z4 := b4.size)
    | (at_builtin; have _t := tk5; refine push_str rfl (.tmp 22) (.tmp 23) rfl w4 W0.heap.size _ c4 A4 _ [47] rfl rfl o4 (by omega) (by omega) ?_; intro A5 c5 w5 p5 g5; clear _t tk5; have N5 := N4.next (us := [[47]]) (Below.refl _ _) p5 g5; have o5 := N5.2.1; have b5 := N5.2.2; have z5 := b5.size; have q2_5 := cellB b5 k2)
    | (go_at_call 71; have _t := tk6; refine (S2.out _ (bt hbW b5)).mono ?_; rintro e w6 ⟨A6, c6, rfl, o6, b6⟩; clear _t tk6; have z6 := b6.size)
    | (at_builtin; have _t := tk7; refine app_str rfl (.tmp 25) (.tmp 29) rfl w6 W0.heap.size _ c5 A5 _ w6.heap.size A6 _ c6 sa rfl rfl (own_below o5 b6) (own_rd o6 rfl) (by omega) (by omega) ?_; intro A7 c7 w7 p7 g7; clear _t tk7; have N7 := N5.next (us := sa) b6 p7 g7; have o7 := N7.2.1; have b7 := N7.2.2; have z7 := b7.size)
    | (at_builtin; have _t := tk8; refine push_str rfl (.tmp 31) (.tmp 32) rfl w7 W0.heap.size _ c7 A7 _ [62] rfl rfl o7 (by omega) (by omega) ?_; intro A8 c8 w8 p8 g8; clear _t tk8; have N8 := N7.next (us := [[62]]) (Below.refl _ _) p8 g8; have o8 := N8.2.1; have b8 := N8.2.2; have z8 := b8.size; have q3_8 := cellB b8 k3; have q4_8 := cellB b8 k4; have q5_8 := cellB b8 k5)
    | (go_at_call 72; have _t := tk9; refine (S3.out _ (bt hbW b8)).mono ?_; rintro e w9 ⟨A9, c9, rfl, o9, b9⟩; clear _t tk9; have z9 := b9.size)
    | (at_builtin; have _t := tk10; refine app_str rfl (.tmp 40) (.tmp 44) rfl w9 W0.heap.size _ c8 A8 _ w9.heap.size A9 _ c9 so rfl rfl (own_below o8 b9) (own_rd o9 rfl) (by omega) (by omega) ?_; intro A10 c10 w10 p10 g10; clear _t tk10; have N10 := N8.next (us := so) b9 p10 g10; have o10 := N10.2.1; have b10 := N10.2.2; have z10 := b10.size)
    | (go_at_call 20; ((with_reducible refine (line_n _ Bd g fc txt sRule A10 c10 _ _ N10.len (hp.below (bt hbW b10)) (own_sl o10) HL.out).mono ?_); rintro e wz ⟨rfl, hpz, hkz, hbz⟩)))
  go_end0
  refine ⟨rfl, ?_, (KP.below (bt hbW b10)).trans hkz, ((bt hbW b10).mono hBd).trans hbz⟩
  rw [HE.out]
  simpa [lineB] using hpz

set_option maxRecDepth 100000 in
set_option maxHeartbeats 4000000 in
theorem rule_3
    (w : World) (Bd g : Nat) (fc : Nat → Value) (txt : B) (A0 B1 B2 B3 B4 : Option Addr) (c0 d1 d2 d3 d4 : Nat) (back in' ahead : List (List Int)) (out : List Int) (calls : List Call) (x : Int) (sb si sa so : List B)
    (hp : Pr w Bd g fc txt) (hBd : Bd ≤ w.heap.size)
    (S0 : Hid (∀ w', Below w.heap.size w w' → Calls Tryd.prog 71 #[.pointer (some ⟨g, 0, none⟩), .slice A0 back.length c0] w' (RetS w' sb)))
    (S1 : Hid (∀ w', Below w.heap.size w w' → Calls Tryd.prog 71 #[.pointer (some ⟨g, 0, none⟩), .slice B1 in'.length d1] w' (RetS w' si)))
    (S2 : Hid (∀ w', Below w.heap.size w w' → Calls Tryd.prog 71 #[.pointer (some ⟨g, 0, none⟩), .slice B2 ahead.length d2] w' (RetS w' sa)))
    (hW : sb.length + si.length + sa.length + so.length + 3 ≤ 10000000000)
    (S3 : Hid (∀ w', Below w.heap.size w w' → Calls Tryd.prog 72 #[.pointer (some ⟨g, 0, none⟩), .slice B3 out.length d3] w' (RetS w' so)))
    (W : List B) (HE : Hid (W = sb ++ [[47]] ++ si ++ [[47]] ++ sa ++ [[62]] ++ so)) (HL : Hid (txt.length + (lineB sRule (sb ++ [[47]] ++ si ++ [[47]] ++ sa ++ [[62]] ++ so)).length ≤ 1000000000000 ∧ (sb ++ [[47]] ++ si ++ [[47]] ++ sa ++ [[62]] ++ so).length ≤ 1000000000000)) :
    Calls Tryd.prog 49 #[.pointer (some ⟨g, 0, none⟩), .int .i64 3, .agg #[.slice A0 back.length c0, .slice B1 in'.length d1, .slice B2 ahead.length d2, .slice B3 out.length d3, .slice B4 calls.length d4, .int .i64 x]] w
      fun e w' => e = .returned (.tuple #[]) ∧ Pr w' Bd g fc (txt ++ lineB sRule W) ∧ KP w w' ∧ Below Bd w w' := by
  go_enter Tryd.func49, Tryd.ntmps49
  go_wp2_with fail
  obtain ⟨W0, hW0⟩ : ∃ W0, w.alloc (.cells #[.slice A0 back.length c0, .slice B1 in'.length d1, .slice B2 ahead.length d2, .slice B3 out.length d3, .slice B4 calls.length d4, .int .i64 x] 78) = W0 := ⟨_, rfl⟩
  rw [hW0]
  have hbW : Below w.heap.size w W0 := by rw [← hW0]; exact (Below.refl _ _).alloc (Nat.le_refl _) _
  have k1 : W0.cell? ⟨w.heap.size, 1, none⟩ = some (.slice B1 in'.length d1) := by rw [← hW0]; simp [go_sem]
  have k2 : W0.cell? ⟨w.heap.size, 2, none⟩ = some (.slice B2 ahead.length d2) := by rw [← hW0]; simp [go_sem]
  have k3 : W0.cell? ⟨w.heap.size, 3, none⟩ = some (.slice B3 out.length d3) := by rw [← hW0]; simp [go_sem]
  have k4 : W0.cell? ⟨w.heap.size, 4, none⟩ = some (.slice B4 calls.length d4) := by rw [← hW0]; simp [go_sem]
  have k5 : W0.cell? ⟨w.heap.size, 5, none⟩ = some (.int .i64 x) := by rw [← hW0]; simp [go_sem]
  have z0 := hbW.size
  clear hW0
  refine (S0.out _ hbW).mono ?_
  rintro e w1 ⟨A1, c1, rfl, o1, b1⟩
  have N1 : RowN W0 sb sb.length A1 c1 w1 := ⟨rfl, o1, b1⟩
  have z1 := b1.size
  have q1_1 := cellB b1 k1
  have tk2 : True := trivial
  have tk3 : True := trivial
  have tk4 : True := trivial
  have tk5 : True := trivial
  have tk6 : True := trivial
  have tk7 : True := trivial
  have tk8 : True := trivial
  have tk9 : True := trivial
  have tk10 : True := trivial
  go_wp2_with (first
    | (at_builtin; have _t := tk2; refine push_str rfl (.tmp 13) (.tmp 14) rfl w1 W0.heap.size _ c1 A1 _ [47] rfl rfl o1 (by omega) (by omega) ?_; intro A2 c2 w2 p2 g2; clear _t tk2; have N2 := N1.next (us := [[47]]) (Below.refl _ _) p2 g2; have o2 := N2.2.1; have b2 := N2.2.2; have z2 := b2.size; have q1_2 := cellB b2 k1)
    | (go_at_call 71; have _t := tk3; refine (S1.out _ (bt hbW b2)).mono ?_; rintro e w3 ⟨A3, c3, rfl, o3, b3⟩; clear _t tk3; have z3 := b3.size)
    | (at_builtin; have _t := tk4; refine app_str rfl (.tmp 16) (.tmp 20) rfl w3 W0.heap.size _ c2 A2 _ w3.heap.size A3 _ c3 si rfl rfl (own_below o2 b3) (own_rd o3 rfl) (by omega) (by omega) ?_; intro A4 c4 w4 p4 g4; clear _t tk4; have N4 := N2.next (us := si) b3 p4 g4; have o4 := N4.2.1; have b4 := N4.2.2; have z4 := b4.size)
    | (at_builtin; have _t := tk5; refine push_str rfl (.tmp 22) (.tmp 23) rfl w4 W0.heap.size _ c4 A4 _ [47] rfl rfl o4 (by omega) (by omega) ?_; intro A5 c5 w5 p5 g5; clear _t tk5; have N5 := N4.next (us := [[47]]) (Below.refl _ _) p5 g5; have o5 := N5.2.1; have b5 := N5.2.2; have z5 := b5.size; have q2_5 := cellB b5 k2)
    | (go_at_call 71; have _t := tk6; refine (S2.out _ (bt hbW b5)).mono ?_; rintro e w6 ⟨A6, c6, rfl, o6, b6⟩; clear _t tk6; have z6 := b6.size)
    | (at_builtin; have _t := tk7; refine app_str rfl (.tmp 25) (.tmp 29) rfl w6 W0.heap.size _ c5 A5 _ w6.heap.size A6 _ c6 sa rfl rfl (own_below o5 b6) (own_rd o6 rfl) (by omega) (by omega) ?_; intro A7 c7 w7 p7 g7; clear _t tk7; have N7 := N5.next (us := sa) b6 p7 g7; have o7 := N7.2.1; have b7 := N7.2.2; have z7 := b7.size)
    | (at_builtin; have _t := tk8; refine push_str rfl (.tmp 31) (.tmp 32) rfl w7 W0.heap.size _ c7 A7 _ [62] rfl rfl o7 (by omega) (by omega) ?_; intro A8 c8 w8 p8 g8; clear _t tk8; have N8 := N7.next (us := [[62]]) (Below.refl _ _) p8 g8; have o8 := N8.2.1; have b8 := N8.2.2; have z8 := b8.size; have q3_8 := cellB b8 k3; have q4_8 := cellB b8 k4; have q5_8 := cellB b8 k5)
    | (go_at_call 72; have _t := tk9; refine (S3.out _ (bt hbW b8)).mono ?_; rintro e w9 ⟨A9, c9, rfl, o9, b9⟩; clear _t tk9; have z9 := b9.size)
    | (at_builtin; have _t := tk10; refine app_str rfl (.tmp 40) (.tmp 44) rfl w9 W0.heap.size _ c8 A8 _ w9.heap.size A9 _ c9 so rfl rfl (own_below o8 b9) (own_rd o9 rfl) (by omega) (by omega) ?_; intro A10 c10 w10 p10 g10; clear _t tk10; have N10 := N8.next (us := so) b9 p10 g10; have o10 := N10.2.1; have b10 := N10.2.2; have z10 := b10.size)
    | (go_at_call 20; ((with_reducible refine (line_n _ Bd g fc txt sRule A10 c10 _ _ N10.len (hp.below (bt hbW b10)) (own_sl o10) HL.out).mono ?_); rintro e wz ⟨rfl, hpz, hkz, hbz⟩)))
  go_end0
  refine ⟨rfl, ?_, (KP.below (bt hbW b10)).trans hkz, ((bt hbW b10).mono hBd).trans hbz⟩
  rw [HE.out]
  simpa [lineB] using hpz

set_option maxRecDepth 100000 in
set_option maxHeartbeats 4000000 in
theorem rule_5
    (w : World) (Bd g : Nat) (fc : Nat → Value) (txt : B) (A0 B1 B2 B3 B4 : Option Addr) (c0 d1 d2 d3 d4 : Nat) (back in' ahead : List (List Int)) (out : List Int) (calls : List Call) (x : Int) (sb si sa so : List B)
    (hp : Pr w Bd g fc txt) (hBd : Bd ≤ w.heap.size)
    (S0 : Hid (∀ w', Below w.heap.size w w' → Calls Tryd.prog 71 #[.pointer (some ⟨g, 0, none⟩), .slice A0 back.length c0] w' (RetS w' sb)))
    (S1 : Hid (∀ w', Below w.heap.size w w' → Calls Tryd.prog 71 #[.pointer (some ⟨g, 0, none⟩), .slice B1 in'.length d1] w' (RetS w' si)))
    (S2 : Hid (∀ w', Below w.heap.size w w' → Calls Tryd.prog 71 #[.pointer (some ⟨g, 0, none⟩), .slice B2 ahead.length d2] w' (RetS w' sa)))
    (hW : sb.length + si.length + sa.length + so.length + 3 ≤ 10000000000)
    (S3 : Hid (∀ w', Below w.heap.size w w' → Calls Tryd.prog 72 #[.pointer (some ⟨g, 0, none⟩), .slice B3 out.length d3] w' (RetS w' so)))
    (W : List B) (HE : Hid (W = sb ++ [[47]] ++ si ++ [[47]] ++ sa ++ [[62]] ++ so)) (HL : Hid (txt.length + (lineB sRule (sb ++ [[47]] ++ si ++ [[47]] ++ sa ++ [[62]] ++ so)).length ≤ 1000000000000 ∧ (sb ++ [[47]] ++ si ++ [[47]] ++ sa ++ [[62]] ++ so).length ≤ 1000000000000)) :
    Calls Tryd.prog 49 #[.pointer (some ⟨g, 0, none⟩), .int .i64 5, .agg #[.slice A0 back.length c0, .slice B1 in'.length d1, .slice B2 ahead.length d2, .slice B3 out.length d3, .slice B4 calls.length d4, .int .i64 x]] w
      fun e w' => e = .returned (.tuple #[]) ∧ Pr w' Bd g fc (txt ++ lineB sRule W) ∧ KP w w' ∧ Below Bd w w' := by
  go_enter Tryd.func49, Tryd.ntmps49
  go_wp2_with fail
  obtain ⟨W0, hW0⟩ : ∃ W0, w.alloc (.cells #[.slice A0 back.length c0, .slice B1 in'.length d1, .slice B2 ahead.length d2, .slice B3 out.length d3, .slice B4 calls.length d4, .int .i64 x] 78) = W0 := ⟨_, rfl⟩
  rw [hW0]
  have hbW : Below w.heap.size w W0 := by rw [← hW0]; exact (Below.refl _ _).alloc (Nat.le_refl _) _
  have k1 : W0.cell? ⟨w.heap.size, 1, none⟩ = some (.slice B1 in'.length d1) := by rw [← hW0]; simp [go_sem]
  have k2 : W0.cell? ⟨w.heap.size, 2, none⟩ = some (.slice B2 ahead.length d2) := by rw [← hW0]; simp [go_sem]
  have k3 : W0.cell? ⟨w.heap.size, 3, none⟩ = some (.slice B3 out.length d3) := by rw [← hW0]; simp [go_sem]
  have k4 : W0.cell? ⟨w.heap.size, 4, none⟩ = some (.slice B4 calls.length d4) := by rw [← hW0]; simp [go_sem]
  have k5 : W0.cell? ⟨w.heap.size, 5, none⟩ = some (.int .i64 x) := by rw [← hW0]; simp [go_sem]
  have z0 := hbW.size
  clear hW0
  refine (S0.out _ hbW).mono ?_
  rintro e w1 ⟨A1, c1, rfl, o1, b1⟩
  have N1 : RowN W0 sb sb.length A1 c1 w1 := ⟨rfl, o1, b1⟩
  have z1 := b1.size
  have q1_1 := cellB b1 k1
  have tk2 : True := trivial
  have tk3 : True := trivial
  have tk4 : True := trivial
  have tk5 : True := trivial
  have tk6 : True := trivial
  have tk7 : True := trivial
  have tk8 : True := trivial
  have tk9 : True := trivial
  have tk10 : True := trivial
  go_wp2_with (first
    | (at_builtin; have _t := tk2; refine push_str rfl (.tmp 13) (.tmp 14) rfl w1 W0.heap.size _ c1 A1 _ [47] rfl rfl o1 (by omega) (by omega) ?_; intro A2 c2 w2 p2 g2; clear _t tk2; have N2 := N1.next (us := [[47]]) (Below.refl _ _) p2 g2; have o2 := N2.2.1; have b2 := N2.2.2; have z2 := b2.size; have q1_2 := cellB b2 k1)
    | (go_at_call 71; have _t := tk3; refine (S1.out _ (bt hbW b2)).mono ?_; rintro e w3 ⟨A3, c3, rfl, o3, b3⟩; clear _t tk3; have z3 := b3.size)
    | (at_builtin; have _t := tk4; refine app_str rfl (.tmp 16) (.tmp 20) rfl w3 W0.heap.size _ c2 A2 _ w3.heap.size A3 _ c3 si rfl rfl (own_below o2 b3) (own_rd o3 rfl) (by omega) (by omega) ?_; intro A4 c4 w4 p4 g4; clear _t tk4; have N4 := N2.next (us := si) b3 p4 g4; have o4 := N4.2.1; have b4 := N4.2.2; have z4 := b4.size)
    | (at_builtin; have _t := tk5; refine push_str rfl (.tmp 22) (.tmp 23) rfl w4 W0.heap.size _ c4 A4 _ [47] rfl rfl o4 (by omega) (by omega) ?_; intro A5 c5 w5 p5 g5; clear _t tk5; have N5 := N4.next (us := [[47]]) (Below.refl _ _) p5 g5; have o5 := N5.2.1; have b5 := N5.2.2; have z5 := b5.size; have q2_5 := cellB b5 k2)
    | (go_at_call 71; have _t := tk6; refine (S2.out _ (bt hbW b5)).mono ?_; rintro e w6 ⟨A6, c6, rfl, o6, b6⟩; clear _t tk6; have z6 := b6.size)
    | (at_builtin; have _t := tk7; refine app_str rfl (.tmp 25) (.tmp 29) rfl w6 W0.heap.size _ c5 A5 _ w6.heap.size A6 _ c6 sa rfl rfl (own_below o5 b6) (own_rd o6 rfl) (by omega) (by omega) ?_; intro A7 c7 w7 p7 g7; clear _t tk7; have N7 := N5.next (us := sa) b6 p7 g7; have o7 := N7.2.1; have b7 := N7.2.2; have z7 := b7.size)
    | (at_builtin; have _t := tk8; refine push_str rfl (.tmp 31) (.tmp 32) rfl w7 W0.heap.size _ c7 A7 _ [62] rfl rfl o7 (by omega) (by omega) ?_; intro A8 c8 w8 p8 g8; clear _t tk8; have N8 := N7.next (us := [[62]]) (Below.refl _ _) p8 g8; have o8 := N8.2.1; have b8 := N8.2.2; have z8 := b8.size; have q3_8 := cellB b8 k3; have q4_8 := cellB b8 k4; have q5_8 := cellB b8 k5)
    | (go_at_call 72; have _t := tk9; refine (S3.out _ (bt hbW b8)).mono ?_; rintro e w9 ⟨A9, c9, rfl, o9, b9⟩; clear _t tk9; have z9 := b9.size)
    | (at_builtin; have _t := tk10; refine app_str rfl (.tmp 40) (.tmp 44) rfl w9 W0.heap.size _ c8 A8 _ w9.heap.size A9 _ c9 so rfl rfl (own_below o8 b9) (own_rd o9 rfl) (by omega) (by omega) ?_; intro A10 c10 w10 p10 g10; clear _t tk10; have N10 := N8.next (us := so) b9 p10 g10; have o10 := N10.2.1; have b10 := N10.2.2; have z10 := b10.size)
    | (go_at_call 20; ((with_reducible refine (line_n _ Bd g fc txt sRule A10 c10 _ _ N10.len (hp.below (bt hbW b10)) (own_sl o10) HL.out).mono ?_); rintro e wz ⟨rfl, hpz, hkz, hbz⟩)))
  go_end0
  refine ⟨rfl, ?_, (KP.below (bt hbW b10)).trans hkz, ((bt hbW b10).mono hBd).trans hbz⟩
  rw [HE.out]
  simpa [lineB] using hpz

set_option maxRecDepth 100000 in
set_option maxHeartbeats 4000000 in
theorem rule_6
    (w : World) (Bd g : Nat) (fc : Nat → Value) (txt : B) (A0 B1 B2 B3 B4 : Option Addr) (c0 d1 d2 d3 d4 : Nat) (back in' ahead : List (List Int)) (out : List Int) (calls : List Call) (x : Int) (sb si sa so : List B)
    (hp : Pr w Bd g fc txt) (hBd : Bd ≤ w.heap.size)
    (S0 : Hid (∀ w', Below w.heap.size w w' → Calls Tryd.prog 71 #[.pointer (some ⟨g, 0, none⟩), .slice A0 back.length c0] w' (RetS w' sb)))
    (S1 : Hid (∀ w', Below w.heap.size w w' → Calls Tryd.prog 71 #[.pointer (some ⟨g, 0, none⟩), .slice B1 in'.length d1] w' (RetS w' si)))
    (S2 : Hid (∀ w', Below w.heap.size w w' → Calls Tryd.prog 71 #[.pointer (some ⟨g, 0, none⟩), .slice B2 ahead.length d2] w' (RetS w' sa)))
    (hW : sb.length + si.length + sa.length + so.length + 3 ≤ 10000000000)
    (tx : B) (S3 : Hid (∀ w', Below w.heap.size w w' → Calls Tryd.prog 21 #[.int .i64 x] w' fun e w'' => e = .returned (.string ⟨tx.toArray⟩) ∧ Below w'.heap.size w' w''))
    (W : List B) (HE : Hid (W = sb ++ [[47]] ++ si ++ [[47]] ++ sa ++ [[62]] ++ [tx])) (HL : Hid (txt.length + (lineB sRule (sb ++ [[47]] ++ si ++ [[47]] ++ sa ++ [[62]] ++ [tx])).length ≤ 1000000000000 ∧ (sb ++ [[47]] ++ si ++ [[47]] ++ sa ++ [[62]] ++ [tx]).length ≤ 1000000000000)) :
    Calls Tryd.prog 49 #[.pointer (some ⟨g, 0, none⟩), .int .i64 6, .agg #[.slice A0 back.length c0, .slice B1 in'.length d1, .slice B2 ahead.length d2, .slice B3 out.length d3, .slice B4 calls.length d4, .int .i64 x]] w
      fun e w' => e = .returned (.tuple #[]) ∧ Pr w' Bd g fc (txt ++ lineB sRule W) ∧ KP w w' ∧ Below Bd w w' := by
  go_enter Tryd.func49, Tryd.ntmps49
  go_wp2_with fail
  obtain ⟨W0, hW0⟩ : ∃ W0, w.alloc (.cells #[.slice A0 back.length c0, .slice B1 in'.length d1, .slice B2 ahead.length d2, .slice B3 out.length d3, .slice B4 calls.length d4, .int .i64 x] 78) = W0 := ⟨_, rfl⟩
  rw [hW0]
  have hbW : Below w.heap.size w W0 := by rw [← hW0]; exact (Below.refl _ _).alloc (Nat.le_refl _) _
  have k1 : W0.cell? ⟨w.heap.size, 1, none⟩ = some (.slice B1 in'.length d1) := by rw [← hW0]; simp [go_sem]
  have k2 : W0.cell? ⟨w.heap.size, 2, none⟩ = some (.slice B2 ahead.length d2) := by rw [← hW0]; simp [go_sem]
  have k3 : W0.cell? ⟨w.heap.size, 3, none⟩ = some (.slice B3 out.length d3) := by rw [← hW0]; simp [go_sem]
  have k4 : W0.cell? ⟨w.heap.size, 4, none⟩ = some (.slice B4 calls.length d4) := by rw [← hW0]; simp [go_sem]
  have k5 : W0.cell? ⟨w.heap.size, 5, none⟩ = some (.int .i64 x) := by rw [← hW0]; simp [go_sem]
  have z0 := hbW.size
  clear hW0
  refine (S0.out _ hbW).mono ?_
  rintro e w1 ⟨A1, c1, rfl, o1, b1⟩
  have N1 : RowN W0 sb sb.length A1 c1 w1 := ⟨rfl, o1, b1⟩
  have z1 := b1.size
  have q1_1 := cellB b1 k1
  have tk2 : True := trivial
  have tk3 : True := trivial
  have tk4 : True := trivial
  have tk5 : True := trivial
  have tk6 : True := trivial
  have tk7 : True := trivial
  have tk8 : True := trivial
  have tk9 : True := trivial
  have tk10 : True := trivial
  go_wp2_with (first
    | (at_builtin; have _t := tk2; refine push_str rfl (.tmp 13) (.tmp 14) rfl w1 W0.heap.size _ c1 A1 _ [47] rfl rfl o1 (by omega) (by omega) ?_; intro A2 c2 w2 p2 g2; clear _t tk2; have N2 := N1.next (us := [[47]]) (Below.refl _ _) p2 g2; have o2 := N2.2.1; have b2 := N2.2.2; have z2 := b2.size; have q1_2 := cellB b2 k1)
    | (go_at_call 71; have _t := tk3; refine (S1.out _ (bt hbW b2)).mono ?_; rintro e w3 ⟨A3, c3, rfl, o3, b3⟩; clear _t tk3; have z3 := b3.size)
    | (at_builtin; have _t := tk4; refine app_str rfl (.tmp 16) (.tmp 20) rfl w3 W0.heap.size _ c2 A2 _ w3.heap.size A3 _ c3 si rfl rfl (own_below o2 b3) (own_rd o3 rfl) (by omega) (by omega) ?_; intro A4 c4 w4 p4 g4; clear _t tk4; have N4 := N2.next (us := si) b3 p4 g4; have o4 := N4.2.1; have b4 := N4.2.2; have z4 := b4.size)
    | (at_builtin; have _t := tk5; refine push_str rfl (.tmp 22) (.tmp 23) rfl w4 W0.heap.size _ c4 A4 _ [47] rfl rfl o4 (by omega) (by omega) ?_; intro A5 c5 w5 p5 g5; clear _t tk5; have N5 := N4.next (us := [[47]]) (Below.refl _ _) p5 g5; have o5 := N5.2.1; have b5 := N5.2.2; have z5 := b5.size; have q2_5 := cellB b5 k2)
    | (go_at_call 71; have _t := tk6; refine (S2.out _ (bt hbW b5)).mono ?_; rintro e w6 ⟨A6, c6, rfl, o6, b6⟩; clear _t tk6; have z6 := b6.size)
    | (at_builtin; have _t := tk7; refine app_str rfl (.tmp 25) (.tmp 29) rfl w6 W0.heap.size _ c5 A5 _ w6.heap.size A6 _ c6 sa rfl rfl (own_below o5 b6) (own_rd o6 rfl) (by omega) (by omega) ?_; intro A7 c7 w7 p7 g7; clear _t tk7; have N7 := N5.next (us := sa) b6 p7 g7; have o7 := N7.2.1; have b7 := N7.2.2; have z7 := b7.size)
    | (at_builtin; have _t := tk8; refine push_str rfl (.tmp 31) (.tmp 32) rfl w7 W0.heap.size _ c7 A7 _ [62] rfl rfl o7 (by omega) (by omega) ?_; intro A8 c8 w8 p8 g8; clear _t tk8; have N8 := N7.next (us := [[62]]) (Below.refl _ _) p8 g8; have o8 := N8.2.1; have b8 := N8.2.2; have z8 := b8.size; have q3_8 := cellB b8 k3; have q4_8 := cellB b8 k4; have q5_8 := cellB b8 k5)
    | (go_at_call 21; refine (S3.out _ (bt hbW b8)).mono ?_; rintro e w9 ⟨rfl, b9⟩; have z9 := b9.size)
    | (at_builtin; refine push_str rfl (.tmp 69) (.tmp 73) rfl w9 W0.heap.size _ c8 A8 _ tx rfl rfl (own_below o8 b9) (by omega) (by omega) ?_; intro A10 c10 w10 p10 g10; have N10 := N8.next (us := [tx]) b9 p10 g10; have o10 := N10.2.1; have b10 := N10.2.2; have z10 := b10.size)
    | (go_at_call 20; ((with_reducible refine (line_n _ Bd g fc txt sRule A10 c10 _ _ N10.len (hp.below (bt hbW b10)) (own_sl o10) HL.out).mono ?_); rintro e wz ⟨rfl, hpz, hkz, hbz⟩)))
  go_end0
  refine ⟨rfl, ?_, (KP.below (bt hbW b10)).trans hkz, ((bt hbW b10).mono hBd).trans hbz⟩
  rw [HE.out]
  simpa [lineB] using hpz

set_option maxRecDepth 100000 in
set_option maxHeartbeats 4000000 in
theorem rule_else
    (w : World) (Bd g : Nat) (fc : Nat → Value) (txt : B) (A0 B1 B2 B3 B4 : Option Addr) (c0 d1 d2 d3 d4 : Nat) (back in' ahead : List (List Int)) (out : List Int) (calls : List Call) (x : Int) (sb si sa so : List B)
    (hp : Pr w Bd g fc txt) (hBd : Bd ≤ w.heap.size)
    (S0 : Hid (∀ w', Below w.heap.size w w' → Calls Tryd.prog 71 #[.pointer (some ⟨g, 0, none⟩), .slice A0 back.length c0] w' (RetS w' sb)))
    (S1 : Hid (∀ w', Below w.heap.size w w' → Calls Tryd.prog 71 #[.pointer (some ⟨g, 0, none⟩), .slice B1 in'.length d1] w' (RetS w' si)))
    (S2 : Hid (∀ w', Below w.heap.size w w' → Calls Tryd.prog 71 #[.pointer (some ⟨g, 0, none⟩), .slice B2 ahead.length d2] w' (RetS w' sa)))
    (hW : sb.length + si.length + sa.length + so.length + 3 ≤ 10000000000)
    (kind : Int) (h1 : (kind == 1) = false) (h2 : (kind == 2) = false) (h3 : (kind == 3) = false) (h4 : (kind == 4) = false) (h5 : (kind == 5) = false) (h6 : (kind == 6) = false)
    (W : List B) (HE : Hid (W = sb ++ [[47]] ++ si ++ [[47]] ++ sa ++ [[62]])) (HL : Hid (txt.length + (lineB sRule (sb ++ [[47]] ++ si ++ [[47]] ++ sa ++ [[62]])).length ≤ 1000000000000 ∧ (sb ++ [[47]] ++ si ++ [[47]] ++ sa ++ [[62]]).length ≤ 1000000000000)) :
    Calls Tryd.prog 49 #[.pointer (some ⟨g, 0, none⟩), .int .i64 kind, .agg #[.slice A0 back.length c0, .slice B1 in'.length d1, .slice B2 ahead.length d2, .slice B3 out.length d3, .slice B4 calls.length d4, .int .i64 x]] w
      fun e w' => e = .returned (.tuple #[]) ∧ Pr w' Bd g fc (txt ++ lineB sRule W) ∧ KP w w' ∧ Below Bd w w' := by
  go_enter Tryd.func49, Tryd.ntmps49
  go_wp2_with fail
  obtain ⟨W0, hW0⟩ : ∃ W0, w.alloc (.cells #[.slice A0 back.length c0, .slice B1 in'.length d1, .slice B2 ahead.length d2, .slice B3 out.length d3, .slice B4 calls.length d4, .int .i64 x] 78) = W0 := ⟨_, rfl⟩
  rw [hW0]
  have hbW : Below w.heap.size w W0 := by rw [← hW0]; exact (Below.refl _ _).alloc (Nat.le_refl _) _
  have k1 : W0.cell? ⟨w.heap.size, 1, none⟩ = some (.slice B1 in'.length d1) := by rw [← hW0]; simp [go_sem]
  have k2 : W0.cell? ⟨w.heap.size, 2, none⟩ = some (.slice B2 ahead.length d2) := by rw [← hW0]; simp [go_sem]
  have k3 : W0.cell? ⟨w.heap.size, 3, none⟩ = some (.slice B3 out.length d3) := by rw [← hW0]; simp [go_sem]
  have k4 : W0.cell? ⟨w.heap.size, 4, none⟩ = some (.slice B4 calls.length d4) := by rw [← hW0]; simp [go_sem]
  have k5 : W0.cell? ⟨w.heap.size, 5, none⟩ = some (.int .i64 x) := by rw [← hW0]; simp [go_sem]
  have z0 := hbW.size
  clear hW0
  refine (S0.out _ hbW).mono ?_
  rintro e w1 ⟨A1, c1, rfl, o1, b1⟩
  have N1 : RowN W0 sb sb.length A1 c1 w1 := ⟨rfl, o1, b1⟩
  have z1 := b1.size
  have q1_1 := cellB b1 k1
  have tk2 : True := trivial
  have tk3 : True := trivial
  have tk4 : True := trivial
  have tk5 : True := trivial
  have tk6 : True := trivial
  have tk7 : True := trivial
  have tk8 : True := trivial
  have tk9 : True := trivial
  have tk10 : True := trivial
  go_wp2_with (first
    | (at_builtin; have _t := tk2; refine push_str rfl (.tmp 13) (.tmp 14) rfl w1 W0.heap.size _ c1 A1 _ [47] rfl rfl o1 (by omega) (by omega) ?_; intro A2 c2 w2 p2 g2; clear _t tk2; have N2 := N1.next (us := [[47]]) (Below.refl _ _) p2 g2; have o2 := N2.2.1; have b2 := N2.2.2; have z2 := b2.size; have q1_2 := cellB b2 k1)
    | (go_at_call 71; have _t := tk3; refine (S1.out _ (bt hbW b2)).mono ?_; rintro e w3 ⟨A3, c3, rfl, o3, b3⟩; clear _t tk3; have z3 := b3.size)
    | (at_builtin; have _t := tk4; refine app_str rfl (.tmp 16) (.tmp 20) rfl w3 W0.heap.size _ c2 A2 _ w3.heap.size A3 _ c3 si rfl rfl (own_below o2 b3) (own_rd o3 rfl) (by omega) (by omega) ?_; intro A4 c4 w4 p4 g4; clear _t tk4; have N4 := N2.next (us := si) b3 p4 g4; have o4 := N4.2.1; have b4 := N4.2.2; have z4 := b4.size)
    | (at_builtin; have _t := tk5; refine push_str rfl (.tmp 22) (.tmp 23) rfl w4 W0.heap.size _ c4 A4 _ [47] rfl rfl o4 (by omega) (by omega) ?_; intro A5 c5 w5 p5 g5; clear _t tk5; have N5 := N4.next (us := [[47]]) (Below.refl _ _) p5 g5; have o5 := N5.2.1; have b5 := N5.2.2; have z5 := b5.size; have q2_5 := cellB b5 k2)
    | (go_at_call 71; have _t := tk6; refine (S2.out _ (bt hbW b5)).mono ?_; rintro e w6 ⟨A6, c6, rfl, o6, b6⟩; clear _t tk6; have z6 := b6.size)
    | (at_builtin; have _t := tk7; refine app_str rfl (.tmp 25) (.tmp 29) rfl w6 W0.heap.size _ c5 A5 _ w6.heap.size A6 _ c6 sa rfl rfl (own_below o5 b6) (own_rd o6 rfl) (by omega) (by omega) ?_; intro A7 c7 w7 p7 g7; clear _t tk7; have N7 := N5.next (us := sa) b6 p7 g7; have o7 := N7.2.1; have b7 := N7.2.2; have z7 := b7.size)
    | (at_builtin; have _t := tk8; refine push_str rfl (.tmp 31) (.tmp 32) rfl w7 W0.heap.size _ c7 A7 _ [62] rfl rfl o7 (by omega) (by omega) ?_; intro A8 c8 w8 p8 g8; clear _t tk8; have N8 := N7.next (us := [[62]]) (Below.refl _ _) p8 g8; have o8 := N8.2.1; have b8 := N8.2.2; have z8 := b8.size; have q3_8 := cellB b8 k3; have q4_8 := cellB b8 k4; have q5_8 := cellB b8 k5)
    | (go_at_call 20; ((with_reducible refine (line_n _ Bd g fc txt sRule A8 c8 _ _ N8.len (hp.below (bt hbW b8)) (own_sl o8) HL.out).mono ?_); rintro e wz ⟨rfl, hpz, hkz, hbz⟩)))
  go_end0
  refine ⟨rfl, ?_, (KP.below (bt hbW b8)).trans hkz, ((bt hbW b8).mono hBd).trans hbz⟩
  rw [HE.out]
  simpa [lineB] using hpz

theorem callW_len (l : List Call) (k : Nat) : ((l.take k).map (fun c => itB c.at' ++ 58 :: itB c.lookup)).length ≤ k := by simp; omega
set_option maxRecDepth 100000 in
set_option maxHeartbeats 4000000 in
theorem rule_4
    (w : World) (Bd g : Nat) (fc : Nat → Value) (txt : B) (A0 B1 B2 B3 B4 : Option Addr) (c0 d1 d2 d3 d4 : Nat) (back in' ahead : List (List Int)) (out : List Int) (calls : List Call) (x : Int) (sb si sa so : List B)
    (hp : Pr w Bd g fc txt) (hBd : Bd ≤ w.heap.size)
    (S0 : Hid (∀ w', Below w.heap.size w w' → Calls Tryd.prog 71 #[.pointer (some ⟨g, 0, none⟩), .slice A0 back.length c0] w' (RetS w' sb)))
    (S1 : Hid (∀ w', Below w.heap.size w w' → Calls Tryd.prog 71 #[.pointer (some ⟨g, 0, none⟩), .slice B1 in'.length d1] w' (RetS w' si)))
    (S2 : Hid (∀ w', Below w.heap.size w w' → Calls Tryd.prog 71 #[.pointer (some ⟨g, 0, none⟩), .slice B2 ahead.length d2] w' (RetS w' sa)))
    (hW : sb.length + si.length + sa.length + so.length + 3 ≤ 10000000000)
    (hT : Tabs w) (hC : Sl CallR 2 w (FT w) B4 calls) (hcl : calls.length ≤ so.length) (HS : Hid (so = calls.map (fun c => itB c.at' ++ 58 :: itB c.lookup)))
    (W : List B) (HE : Hid (W = sb ++ [[47]] ++ si ++ [[47]] ++ sa ++ [[62]] ++ so)) (HL : Hid (txt.length + (lineB sRule (sb ++ [[47]] ++ si ++ [[47]] ++ sa ++ [[62]] ++ so)).length ≤ 1000000000000 ∧ (sb ++ [[47]] ++ si ++ [[47]] ++ sa ++ [[62]] ++ so).length ≤ 1000000000000)) :
    Calls Tryd.prog 49 #[.pointer (some ⟨g, 0, none⟩), .int .i64 4, .agg #[.slice A0 back.length c0, .slice B1 in'.length d1, .slice B2 ahead.length d2, .slice B3 out.length d3, .slice B4 calls.length d4, .int .i64 x]] w
      fun e w' => e = .returned (.tuple #[]) ∧ Pr w' Bd g fc (txt ++ lineB sRule W) ∧ KP w w' ∧ Below Bd w w' := by
  go_enter Tryd.func49, Tryd.ntmps49
  go_wp2_with fail
  obtain ⟨W0, hW0⟩ : ∃ W0, w.alloc (.cells #[.slice A0 back.length c0, .slice B1 in'.length d1, .slice B2 ahead.length d2, .slice B3 out.length d3, .slice B4 calls.length d4, .int .i64 x] 78) = W0 := ⟨_, rfl⟩
  rw [hW0]
  have hbW : Below w.heap.size w W0 := by rw [← hW0]; exact (Below.refl _ _).alloc (Nat.le_refl _) _
  have k1 : W0.cell? ⟨w.heap.size, 1, none⟩ = some (.slice B1 in'.length d1) := by rw [← hW0]; simp [go_sem]
  have k2 : W0.cell? ⟨w.heap.size, 2, none⟩ = some (.slice B2 ahead.length d2) := by rw [← hW0]; simp [go_sem]
  have k3 : W0.cell? ⟨w.heap.size, 3, none⟩ = some (.slice B3 out.length d3) := by rw [← hW0]; simp [go_sem]
  have k4 : W0.cell? ⟨w.heap.size, 4, none⟩ = some (.slice B4 calls.length d4) := by rw [← hW0]; simp [go_sem]
  have k5 : W0.cell? ⟨w.heap.size, 5, none⟩ = some (.int .i64 x) := by rw [← hW0]; simp [go_sem]
  have z0 := hbW.size
  clear hW0
  refine (S0.out _ hbW).mono ?_
  rintro e w1 ⟨A1, c1, rfl, o1, b1⟩
  have N1 : RowN W0 sb sb.length A1 c1 w1 := ⟨rfl, o1, b1⟩
  have z1 := b1.size
  have q1_1 := cellB b1 k1
  have tk2 : True := trivial
  have tk3 : True := trivial
  have tk4 : True := trivial
  have tk5 : True := trivial
  have tk6 : True := trivial
  have tk7 : True := trivial
  have tk8 : True := trivial
  have tk9 : True := trivial
  have tk10 : True := trivial
  go_wp2_with (first
    | (at_builtin; have _t := tk2; refine push_str rfl (.tmp 13) (.tmp 14) rfl w1 W0.heap.size _ c1 A1 _ [47] rfl rfl o1 (by omega) (by omega) ?_; intro A2 c2 w2 p2 g2; clear _t tk2; have N2 := N1.next (us := [[47]]) (Below.refl _ _) p2 g2; have o2 := N2.2.1; have b2 := N2.2.2; have z2 := b2.size; have q1_2 := cellB b2 k1)
    | (go_at_call 71; have _t := tk3; refine (S1.out _ (bt hbW b2)).mono ?_; rintro e w3 ⟨A3, c3, rfl, o3, b3⟩; clear _t tk3; have z3 := b3.size)
    | (at_builtin; have _t := tk4; refine app_str rfl (.tmp 16) (.tmp 20) rfl w3 W0.heap.size _ c2 A2 _ w3.heap.size A3 _ c3 si rfl rfl (own_below o2 b3) (own_rd o3 rfl) (by omega) (by omega) ?_; intro A4 c4 w4 p4 g4; clear _t tk4; have N4 := N2.next (us := si) b3 p4 g4; have o4 := N4.2.1; have b4 := N4.2.2; have z4 := b4.size)
    | (at_builtin; have _t := tk5; refine push_str rfl (.tmp 22) (.tmp 23) rfl w4 W0.heap.size _ c4 A4 _ [47] rfl rfl o4 (by omega) (by omega) ?_; intro A5 c5 w5 p5 g5; clear _t tk5; have N5 := N4.next (us := [[47]]) (Below.refl _ _) p5 g5; have o5 := N5.2.1; have b5 := N5.2.2; have z5 := b5.size; have q2_5 := cellB b5 k2)
    | (go_at_call 71; have _t := tk6; refine (S2.out _ (bt hbW b5)).mono ?_; rintro e w6 ⟨A6, c6, rfl, o6, b6⟩; clear _t tk6; have z6 := b6.size)
    | (at_builtin; have _t := tk7; refine app_str rfl (.tmp 25) (.tmp 29) rfl w6 W0.heap.size _ c5 A5 _ w6.heap.size A6 _ c6 sa rfl rfl (own_below o5 b6) (own_rd o6 rfl) (by omega) (by omega) ?_; intro A7 c7 w7 p7 g7; clear _t tk7; have N7 := N5.next (us := sa) b6 p7 g7; have o7 := N7.2.1; have b7 := N7.2.2; have z7 := b7.size)
    | (at_builtin; have _t := tk8; refine push_str rfl (.tmp 31) (.tmp 32) rfl w7 W0.heap.size _ c7 A7 _ [62] rfl rfl o7 (by omega) (by omega) ?_; intro A8 c8 w8 p8 g8; clear _t tk8; have N8 := N7.next (us := [[62]]) (Below.refl _ _) p8 g8; have o8 := N8.2.1; have b8 := N8.2.2; have z8 := b8.size; have q3_8 := cellB b8 k3; have q4_8 := cellB b8 k4; have q5_8 := cellB b8 k5))
  obtain ⟨w8', hw8'⟩ : ∃ w8', w8' = w8 := ⟨_, rfl⟩
  have hN8 := N8
  rw [← hw8'] at hN8
  go_loopw [6, 51] (fun v i wr => ∃ k n A c, k ≤ calls.length ∧ i = .int .i64 (k : Nat) ∧ v = .slice A n c ∧ n ≤ sb.length + 1 + si.length + 1 + sa.length + 1 + k ∧ RowN W0 (sb ++ [[47]] ++ si ++ [[47]] ++ sa ++ [[62]] ++ (calls.take k).map (fun c => itB c.at' ++ 58 :: itB c.lookup)) n A c wr) (fun _ i _ => calls.length - (intOf i).toNat)
  case atStart => exact ⟨0, _, A8, c8, Nat.zero_le _, rfl, rfl, by omega, by simpa using N8⟩
  case round =>
    obtain ⟨k, n, A9, c9, hk, rfl, rfl, hnn, N9⟩ := hrel
    have b9 := N9.2.2
    have o9 := N9.2.1
    have z9 := b9.size
    have hbw9 := bt hbW b9
    by_cases hlt : k < calls.length
    · obtain ⟨b, o, x', rfl, -, hx, e0, e1, r0, r1⟩ := ((KP.below hbw9).sl CallR.ok hC).call hlt
      have HS2 := Lib.hid (map_take_snoc (fun c : Call => itB c.at' ++ 58 :: itB c.lookup) calls k x' hx.out)
      generalize hws : sb ++ [[47]] ++ si ++ [[47]] ++ sa ++ [[62]] ++ (calls.take k).map (fun c => itB c.at' ++ 58 :: itB c.lookup) = ws at *
      have Hws := Lib.hid hws
      obtain ⟨x0, x1⟩ := x'
      dsimp only at e0 e1 r0 r1
      have hT1 := hT.all hbw9
      have n0 := Lib.hid (fun w hT => number_ok w x0 hT r0)
      have n1 := Lib.hid (fun w hT => number_ok w x1 hT r1)
      have l0 := itB_len r0
      have l1 := itB_len r1
      generalize itB x0 = t0 at *
      generalize itB x1 = t1 at *
      obtain ⟨u1, a1, m1, U1⟩ := app_name t0 [58] (by omega) (by simp)
      obtain ⟨u2, a2, m2, U2⟩ := app_name u1 t1 (by simp only [List.length_cons, List.length_nil] at m1; omega) (by omega)
      simp only [List.length_cons, List.length_nil] at m1
      have hne : Hid (some wr.heap.size ≠ (Value.slice A9 n c9).ownBlock) := fun e => by have := (o9.lt _ e.symm).2; omega
      have hll : n + 1 ≤ 1000000000000 := by omega
      clear hx hws r0 r1 hw8' hN8
      go_wp2_with fail
      obtain ⟨W1, hW1⟩ : ∃ W1, wr.alloc (.cells #[.int .i64 x0, .int .i64 x1] 80) = W1 := ⟨_, rfl⟩
      rw [hW1]
      have hb0 : Below wr.heap.size wr W1 := by rw [← hW1]; exact (Below.refl _ _).alloc (Nat.le_refl _) _
      have hT2 := hT1.all hb0
      have kk0 : W1.cell? ⟨wr.heap.size, 0, none⟩ = some (.int .i64 x0) := by rw [← hW1]; simp [go_sem]
      have kk1 : W1.cell? ⟨wr.heap.size, 1, none⟩ = some (.int .i64 x1) := by rw [← hW1]; simp [go_sem]
      have zz0 := hb0.size
      clear hW1 e0 e1
      go_region_held3 (fun w' => w'.cell? ⟨wr.heap.size, 0, none⟩ = some (.int .i64 x0) ∧ w'.cell? ⟨wr.heap.size, 1, none⟩ = some (.int .i64 x1))
        (first
          | exact ⟨grown_cell hg4 (cellB hc2 kk0) hne.out, grown_cell hg4 (cellB hc2 kk1) hne.out⟩
          | exact ⟨cellB hc2 kk0, cellB hc2 kk1⟩
          | exact ⟨cellB hc1 kk0, cellB hc1 kk1⟩
          | go_keep)
        (first
          | (go_at_call 21; refine (n0.out _ hT2.drew).mono ?_; rintro e v1 ⟨rfl, hb1⟩; have hc1 := unDrew hb1; have y1 := hc1.size)
          | (go_at_call 21; refine (n1.out _ (hT2.all hc1)).mono ?_; rintro e v2 ⟨rfl, hb2⟩; have hc2 := bt hc1 hb2; have y2 := hc2.size)
          | (refine step_push (by rfl) (.tmp 55) (.tmp 64) (by rfl) v2 v2.heap.size rfl W0.heap.size n c9 1 A9 _ [u2] rfl (by go_simp) (by go_simp) (own_below o9 (bt hb0 hc2)) hll (Nat.le_trans z9 (Nat.le_trans zz0 y2)) ?_; intro A10 c10 w10 p10 hg4))
      have N10 := N9.next (us := [u2]) (bt hb0 hc2) p10 hg4
      go_wp2
      go_roundw
      case rel =>
        refine ⟨k + 1, n + 1, A10, c10, by omega, by simp, rfl, by omega, ?_⟩
        rw [← Hws.out] at N10
        rw [HS2.out]
        rw [U2.out, U1.out] at N10
        simpa using N10
      case measure => simp [intOf]; omega
    · obtain rfl : k = calls.length := by omega
      rw [List.take_length, ← HS.out] at N9
      have b10 := N9.2.2
      have o10 := N9.2.1
      have hn9 := Lib.hid N9.1
      clear hw8' hN8 o9 b9
      go_wp2_with (go_at_call 20; ((with_reducible refine (line_n _ Bd g fc txt sRule A9 c9 _ _ hn9.out (hp.below hbw9) (own_sl o10) HL.out).mono ?_); rintro e wz ⟨rfl, hpz, hkz, hbz⟩))
      go_end0
      refine ⟨rfl, ?_, (KP.below hbw9).trans hkz, (hbw9.mono hBd).trans hbz⟩
      rw [HE.out]
      simpa [lineB] using hpz
end Go.Proofs.YtkijckccfookeaaDoor
