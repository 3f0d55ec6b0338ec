/- unparse: region, contour. -/
import Derived.Test.YtkijckccfookeaaDoorUnC
import Derived.Deep.RegionHeld3
import Derived.Lib.MinMax
namespace Go.Proofs.YtkijckccfookeaaDoor
open Go.RowKit Go.Sort

/-- some texts more, in a region that draws its order -/
theorem step_push {ops : Array Oper} {o : Oper} {a : Act} {K : Act → World → Prop} {Q : Exit → Act → World → Prop} {E : Prop} (hgd : o.guard = none) (s x : Operand)
    (ho : o.op = .call { callee := .builtin .append, args := #[s, x], argTypes := #[46, 46] })
    (w1 : World) (hsz : Nat) (hh : w1.heap.size = hsz) (base n c m : Nat) (A : Option Addr) (xs : List Value) (us : List B) (hm : us.length = m) (hs : a.eval s = .slice A n c) (hx : a.eval x = .slice (some ⟨hsz, 0, none⟩) m m)
    (hown : w1.ownsRow base 9 1 (.slice A n c) n xs) (hn : n + m ≤ 1000000000000) (hb : base ≤ w1.heap.size)
    (h : ∀ A' c' w', w'.ownsRow base 9 1 (.slice A' (n + m) c') (n + m) (xs ++ strs us) → w1.grownBy w' (Value.slice A n c).ownBlock → K (a.put o.dst (.slice A' (n + m) c')) w') :
    if Region.wanted o (yielded ops a.tmps) = true then Oper.wp Tryd.prog o a (w1.alloc (.cells (strs us).toArray 9)) K Q else E := by
  subst hh
  subst hm
  obtain ⟨i0, hi0, hz0, hz1, hz2⟩ := info_parts infoStr
  refine step_append_any _ hgd s x 46 ho base 9 i0 _ 1 16 Tryd.underlying46 hi0 hz0 hz1 hz2 rfl (by decide) (.slice A n c) n xs hs (hown.alloc _) (w1.heap.size + 1) (some ⟨w1.heap.size, 0, none⟩) us.length us.length (strs us) hx (Rd.newAt _ _ rfl (strs us).toArray 9 us.length 1 (by simp [strs_len])) (strs_one us) (by simp only [maxLen]; omega) (by omega) (by simp; omega) ?_
  intro v' w' ho' hg _
  obtain ⟨A', c', rfl⟩ := own_form ho'
  refine h A' c' w' ho' ⟨hg.os, hg.tape, hg.output, Nat.le_trans (by simp) hg.size, fun i hi hne => ?_⟩
  exact (hg.block i (by simp; omega) hne).trans (Below.heap_alloc _ _ _ hi)
theorem Tabs.drew {w : World} (h : Tabs w) : Tabs w.drew := ⟨h.ops, h.anch, h.kinds, h.pow⟩
theorem unDrew {w w' : World} (h : Below w.drew.heap.size w.drew w') : Below w.heap.size w w' := ⟨h.os, h.tape, h.output, h.size, h.block⟩
theorem bt {a b c : World} (h : Below a.heap.size a b) (k : Below b.heap.size b c) : Below a.heap.size a c := h.trans (k.mono h.size)
theorem grown_cell {w w' : World} {row : Option Nat} (hg : w.grownBy w' row) {b o : Nat} {v : Value} (h : w.cell? ⟨b, o, none⟩ = some v) (hne : some b ≠ row) : w'.cell? ⟨b, o, none⟩ = some v :=
  (World.cell?_of_block (a := ⟨b, o, none⟩) (hg.block b (World.block_lt_of_cell? w _ h) hne)).trans h
theorem tentW_le (l : List Tent) : (l.flatMap tentW).length = l.length * 3 := by
  induction l with
  | nil => rfl
  | cons x l ih => simp only [List.flatMap_cons, List.length_append, ih, tentW, List.length_cons, List.length_nil]; omega
theorem Pr.below {w w' : World} {Bd g : Nat} {fc : Nat → Value} {txt : B} (h : Pr w Bd g fc txt) (hb : Below w.heap.size w w') : Pr w' Bd g fc txt := by
  obtain ⟨ad, v, h1, h2, h3, h4⟩ := h
  exact ⟨ad, v, h1, (hb.block g (Bk.lt h2)).trans h2, h3, own_below h4 hb⟩
theorem own_sl {w : World} {base n c : Nat} {A : Option Addr} {ws : List B} (h : w.ownsRow base 9 1 (.slice A n c) n (strs ws)) : Sl StrR 1 w (FT w) A ws :=
  Sl.of_own h (strs_fl _ _ _) (fun _ _ hb => ft_bk hb (by decide) (by decide)) (by decide)
set_option maxRecDepth 100000 in
set_option maxHeartbeats 1000000 in
theorem region_ok (w : World) (Bd g : Nat) (fc : Nat → Value) (txt : B) (A : Option Addr) (c : Nat) (l : List Tent) (hT : Tabs w) (hp : Pr w Bd g fc txt) (hBd : Bd ≤ w.heap.size) (hA : Sl TentR 3 w (FT w) A l) (hl : l.length ≤ 10000000000) (hlen : txt.length + (lineB sRegion (l.flatMap tentW)).length ≤ 1000000000000) :
    Calls Tryd.prog 22 #[.pointer (some ⟨g, 0, none⟩), .agg #[.slice A l.length c]] w fun e w' => e = .returned (.tuple #[]) ∧ Pr w' Bd g fc (txt ++ lineB sRegion (l.flatMap tentW)) ∧ KP w w' ∧ Below Bd w w' := by
  have hTL := Nat.le_of_eq (tentW_le l)
  go_enter Tryd.func22, Tryd.ntmps22
  go_wp2
  go_loopw [4, 10] (fun v i wr => ∃ k : Nat, k ≤ l.length ∧ i = .int .i64 k ∧ RowS w ((l.take k).flatMap tentW) v wr) (fun _ i _ => l.length - (intOf i).toNat)
  case atStart => exact ⟨0, Nat.zero_le _, rfl, none, 0, rfl, ⟨rfl, .inl ⟨rfl, rfl⟩⟩, (Below.refl _ _).alloc (Nat.le_refl _) _⟩
  case round =>
    obtain ⟨k, hk, rfl, A3, c3, rfl, hown, hbl⟩ := hrel
    have hlk := tentW_le (l.take k)
    rw [List.length_take, Nat.min_eq_left hk] at hlk
    by_cases hlt : k < l.length
    · obtain ⟨b, o, x, rfl, -, hx, q0, q1, q2, r0, r1, r2⟩ := ((KP.below hbl).sl TentR.ok hA).tent hlt
      have HS := Lib.hid (flat_take_snoc tentW l k x hx.out)
      generalize hws : (l.take k).flatMap tentW = ws at *
      have s0 := hbl.size
      have hN0 : RowN w ws ws.length A3 c3 wr := ⟨rfl, hown, hbl⟩
      have hll : ws.length ≤ 100000000000 := by omega
      have hll3 : ws.length + 3 ≤ 1000000000000 := by omega
      obtain ⟨x0, x1, x2⟩ := x
      dsimp only at q0 q1 q2 r0 r1 r2
      have hT1 := hT.all hbl
      clear hx hws hlk
      have hne : Hid (some wr.heap.size ≠ (Value.slice A3 ws.length c3).ownBlock) := fun e => by have := (hown.lt _ e.symm).2; omega
      go_wp2_with fail
      obtain ⟨W1, hW1⟩ : ∃ W1, wr.alloc (.cells #[.int .i64 x0, .int .i64 x1, .int .i64 x2] 86) = W1 := ⟨_, rfl⟩
      rw [hW1]
      have hb0 : Below wr.heap.size wr W1 := by rw [← hW1]; exact (Below.refl _ _).alloc (Nat.le_refl _) _
      have hT2 := hT1.all hb0
      have k0 : W1.cell? ⟨wr.heap.size, 0, none⟩ = some (.int .i64 x0) := by rw [← hW1]; simp [go_sem]
      have k1 : W1.cell? ⟨wr.heap.size, 1, none⟩ = some (.int .i64 x1) := by rw [← hW1]; simp [go_sem]
      have k2 : W1.cell? ⟨wr.heap.size, 2, none⟩ = some (.int .i64 x2) := by rw [← hW1]; simp [go_sem]
      have z0 := hb0.size
      clear hW1 q0 q1 q2
      go_region_held3 (fun w' => w'.cell? ⟨wr.heap.size, 0, none⟩ = some (.int .i64 x0) ∧ w'.cell? ⟨wr.heap.size, 1, none⟩ = some (.int .i64 x1) ∧ w'.cell? ⟨wr.heap.size, 2, none⟩ = some (.int .i64 x2))
        (first
          | exact ⟨grown_cell hg4 (cellB hc3 k0) hne.out, grown_cell hg4 (cellB hc3 k1) hne.out, grown_cell hg4 (cellB hc3 k2) hne.out⟩
          | exact ⟨cellB hc3 k0, cellB hc3 k1, cellB hc3 k2⟩
          | exact ⟨cellB hc2 k0, cellB hc2 k1, cellB hc2 k2⟩
          | exact ⟨cellB hc1 k0, cellB hc1 k1, cellB hc1 k2⟩
          | go_keep)
        (first
          | (go_at_call 21; refine (number_ok _ x0 hT2.drew r0).mono ?_; rintro e w1 ⟨rfl, hb1⟩; have hc1 := unDrew hb1; have z1 := hc1.size)
          | (go_at_call 21; refine (number_ok _ x1 (hT2.all hc1) r1).mono ?_; rintro e w2 ⟨rfl, hb2⟩; have hc2 := bt hc1 hb2; have z2 := hc2.size)
          | (go_at_call 21; refine (number_ok _ x2 (hT2.all hc2) r2).mono ?_; rintro e w3 ⟨rfl, hb3⟩; have hc3 := bt hc2 hb3; have z3 := hc3.size)
          | (refine step_push (by rfl) (.tmp 14) (.tmp 24) (by rfl) w3 w3.heap.size rfl w.heap.size ws.length c3 3 A3 (strs ws) [itB x0, itB x1, itB x2] rfl (by go_simp) (by go_simp) (own_below hown (bt hb0 hc3)) hll3 (Nat.le_trans s0 (Nat.le_trans z0 z3)) ?_; intro A4 c4 w4 ho4 hg4))
      have hN4 := hN0.next (bt hb0 hc3) ho4 hg4
      go_wp2
      go_roundw
      case rel => exact ⟨k + 1, by omega, by simp, by rw [HS.out]; exact hN4.s⟩
      case measure => simp [intOf]; omega
    · obtain rfl : k = l.length := by omega
      have HL : Hid ((l.take l.length).flatMap tentW = l.flatMap tentW) := by show _ = _; rw [List.take_length]
      rw [← HL.out] at hlen hTL
      generalize hws : (l.take l.length).flatMap tentW = ws at *
      have hb3 := hp.below hbl
      have hs3 := own_sl hown
      have hw3 : ws.length ≤ 1000000000000 := by omega
      clear hws hlk
      go_wp2_with (go_at_call 20; ((with_reducible refine (line_ok _ Bd g fc txt sRegion A3 c3 ws hb3 hs3 hlen hw3).mono ?_); rintro e w4 ⟨rfl, hp4, hk4, hb4⟩))
      go_end0
      rw [← HL.out]
      exact ⟨rfl, hp4, (KP.below hbl).trans hk4, (hbl.mono hBd).trans hb4⟩
end Go.Proofs.YtkijckccfookeaaDoor
