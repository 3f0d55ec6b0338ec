/- append(append(append([]Word{}, w[:at]...), x), w[at:]...): the runs of its appends, in each order of its makings. -/
import Derived.Test.YtccnogdfnikioaaDoorSets
import Derived.Test.YtccnogdfnikioaaDoorPureRows
namespace Go.Proofs.YtccnogdfnikioaaDoor
open Go.RowKit

theorem cells_take (ws : List P3) (k j : Nat) (u : Value) (h : (c3s (ws.take k))[j]? = some u) : (c3s ws)[j]? = some u := by
  conv => lhs; rw [← List.take_append_drop k ws, c3s_append]
  obtain ⟨h1, h2⟩ := List.getElem?_eq_some_iff.1 h
  rw [List.getElem?_append_left h1]
  exact h
theorem cells_drop (ws : List P3) (k j : Nat) (hk : k ≤ ws.length) (u : Value) (h : (c3s (ws.drop k))[j]? = some u) : (c3s ws)[k * 3 + j]? = some u := by
  conv => lhs; rw [← List.take_append_drop k ws, c3s_append]
  have hl : (c3s (ws.take k)).length = k * 3 := by rw [c3s_length, List.length_take]; omega
  rw [List.getElem?_append_right (by omega), hl, show k * 3 + j - k * 3 = j by omega]
  exact h
theorem rd_slices (V : World) (Bd : Nat) (A : Option Addr) (ws : List P3) (c k : Nat) (hr : Rd V Bd A ws.length 3 (c3s ws)) (hc : ws.length ≤ c) (hk : k ≤ ws.length) :
    Rd V Bd (if c = 0 then A else A.map (·.add (0 * 3))) k 3 (c3s (ws.take k)) ∧ Rd V Bd (if c = k then A else A.map (·.add (k * 3))) (ws.length - k) 3 (c3s (ws.drop k)) := by
  refine ⟨⟨by rw [c3s_length, List.length_take]; omega, fun h => ?_⟩, ⟨by rw [c3s_length, List.length_drop], fun h => ?_⟩⟩
  · obtain ⟨b, o, rfl, hb, hcs⟩ := hr.2 (by omega)
    rw [if_neg (by omega)]
    refine ⟨b, o, ?_, hb, fun j u hu => hcs j u (cells_take ws k j u hu)⟩
    simp [addr_add]
  · obtain ⟨b, o, rfl, hb, hcs⟩ := hr.2 (by omega)
    rw [if_neg (by omega)]
    refine ⟨b, o + k * 3, ?_, hb, fun j u hu => ?_⟩
    · simp [addr_add]
    · have := hcs (k * 3 + j) u (cells_drop ws k j hk u hu)
      rw [Nat.add_assoc]
      exact this
theorem run_slice_to (V : World) (A : Option Addr) (n c k : Nat) (hk : k ≤ c) :
    (Instr.slice 32 (.slice A n c) none (some (.int .i64 (k : Int))) none).run Tryd.prog V = .ok (.slice (if c = 0 then A else A.map (·.add (0 * 3))) k c) V := by
  obtain ⟨i0, hi0, hz0, hz1, hz2⟩ := info_parts infoS35
  have h2 : (k : Int) ≤ (c : Int) := by omega
  simp [Instr.slice, Instr.sliceBounds, Instr.sliceBound, run_underlying Tryd.underlying32, sizeOf, typeInfo, hi0, hz1, asIntOf, h2]
  omega
theorem run_slice_from (V : World) (A : Option Addr) (n c k : Nat) (hk : k ≤ n) :
    (Instr.slice 32 (.slice A n c) (some (.int .i64 (k : Int))) none none).run Tryd.prog V = .ok (.slice (if c = k then A else A.map (·.add (k * 3))) (n - k) (c - k)) V := by
  obtain ⟨i0, hi0, hz0, hz1, hz2⟩ := info_parts infoS35
  have h2 : (k : Int) ≤ (n : Int) := by omega
  simp [Instr.slice, Instr.sliceBounds, Instr.sliceBound, run_underlying Tryd.underlying32, sizeOf, typeInfo, hi0, hz1, asIntOf, h2]
  omega
theorem runA (V : World) (base : Nat) (v : Value) (n : Nat) (xs : List Value) (hown : V.ownsRow base 35 3 v n xs) (B : Nat) (A : Option Addr) (m c : Nat) (news : List Value) (hr : Rd V B A m 3 news)
    (h1 : ∀ u ∈ news, u.oneCell' = true) (hl : n + m ≤ 1000) (hbase : base ≤ V.heap.size) :
    ∃ A' c' V', (Builtin.append_ #[32, 32] 32 #[v, .slice A m c]).run Tryd.prog V = .ok (.slice A' (n + m) c') V' ∧ V'.ownsRow base 35 3 (.slice A' (n + m) c') (n + m) (xs ++ news) ∧ V.grownBy V' v.ownBlock := by
  obtain ⟨i0, hi0, hz0, hz1, hz2⟩ := info_parts infoS35
  obtain ⟨v', V', hrun, hown', hg, -⟩ := run_append_any (P := Tryd.prog) V base 32 32 35 i0 _ 3 32 Tryd.underlying32 hi0 hz0 hz1 hz2 rfl (by decide) v n xs hown B A m c news hr h1 (by simp only [maxLen]; omega) (by omega) hbase
  obtain ⟨A', c', rfl, -⟩ := Rd.of_own hown'
  exact ⟨A', c', V', hrun, hown', hg⟩
def x3 (br : UInt8) : Array Value := #[.int .i64 0, .int .i64 0, .string ⟨#[br]⟩]
def MorePost (W : World) (ws : List P3) (k : Nat) (br : UInt8) (v : Value) (V : World) : Prop :=
  ∃ A c, v = .slice A (ws.length + 1) c ∧ Rd V V.heap.size A (ws.length + 1) 3 (c3s (ws.take k ++ [wd [br]] ++ ws.drop k)) ∧ Below W.heap.size W V
/-- the second and the third append, behind whatever order -/
theorem more_tail (W V : World) (Bd : Nat) (ws : List P3) (k : Nat) (br : UInt8) (hk : k ≤ ws.length) (hl : ws.length ≤ 900) (B2 : Option Addr) (c2 : Nat) (h2 : Rd W Bd B2 (ws.length - k) 3 (c3s (ws.drop k))) (hBd : Bd ≤ W.heap.size)
    (hb : Below W.heap.size W V) (A c : _) (hown : V.ownsRow W.heap.size 35 3 (.slice A k c) k (c3s (ws.take k))) (Bx : Nat) (Ax : Option Addr) (hx : Rd V Bx Ax 1 3 (x3 br).toList) :
    ∃ A4 c4 V4 A5 c5 V5, (Builtin.append_ #[32, 32] 32 #[.slice A k c, .slice Ax 1 1]).run Tryd.prog V = .ok (.slice A4 (k + 1) c4) V4 ∧
      (Builtin.append_ #[32, 32] 32 #[.slice A4 (k + 1) c4, .slice B2 (ws.length - k) c2]).run Tryd.prog V4 = .ok (.slice A5 (ws.length + 1) c5) V5 ∧ MorePost W ws k br (.slice A5 (ws.length + 1) c5) V5 := by
  have hbs := hb.size
  obtain ⟨A4, c4, V4, r4, o4, g4⟩ := runA V W.heap.size _ k _ hown Bx Ax 1 1 _ hx (by simp [x3, Value.oneCell']) (by omega) hb.size
  have hb4 : Below W.heap.size W V4 := hb.grown g4 hb.size (fun g hg => (hown.lt g hg).1)
  obtain ⟨A5, c5, V5, r5, o5, g5⟩ := runA V4 W.heap.size _ (k + 1) _ o4 Bd B2 (ws.length - k) c2 _ (h2.below hb4 hBd) (one3 _) (by omega) hb4.size
  have hb5 : Below W.heap.size W V5 := hb4.grown g5 hb4.size (fun g hg => (o4.lt g hg).1)
  rw [show k + 1 + (ws.length - k) = ws.length + 1 by omega] at r5 o5
  refine ⟨A4, c4, V4, A5, c5, V5, r4, r5, A5, c5, rfl, ?_, hb5⟩
  obtain ⟨A', c', e, hrd⟩ := Rd.of_own o5
  cases e
  have e2 : c3s (ws.take k ++ [wd [br]] ++ ws.drop k) = c3s (ws.take k) ++ (x3 br).toList ++ c3s (ws.drop k) := by
    rw [c3s_append, c3s_append]
    rfl
  rw [e2]
  exact hrd
theorem rd_x (V : World) (br : UInt8) : Rd (V.alloc (.cells (x3 br) 35)) (V.heap.size + 1) (some ⟨V.heap.size, 0, none⟩) 1 3 (x3 br).toList := Rd.newAt _ _ rfl (x3 br) 35 1 3 rfl
/-- the orders: empty, first append, the bracket | empty, bracket, first append | bracket, empty, first append -/
theorem more_runs (W : World) (Bd : Nat) (ws : List P3) (k : Nat) (br : UInt8) (hk : k ≤ ws.length) (hl : ws.length ≤ 900) (B1 : Option Addr) (c1 : Nat) (h1 : Rd W Bd B1 k 3 (c3s (ws.take k))) (B2 : Option Addr) (c2 : Nat)
    (h2 : Rd W Bd B2 (ws.length - k) 3 (c3s (ws.drop k))) (hBd : Bd ≤ W.heap.size) :
    (∃ A3 c3 V3, (Builtin.append_ #[32, 32] 32 #[.slice (some ⟨W.heap.size, 0, none⟩) 0 0, .slice B1 k c1]).run Tryd.prog (W.alloc (.cells #[] 35)) = .ok (.slice A3 k c3) V3 ∧
      ∃ A4 c4 V4 A5 c5 V5, (Builtin.append_ #[32, 32] 32 #[.slice A3 k c3, .slice (some ⟨V3.heap.size, 0, none⟩) 1 1]).run Tryd.prog (V3.alloc (.cells (x3 br) 35)) = .ok (.slice A4 (k + 1) c4) V4 ∧
        (Builtin.append_ #[32, 32] 32 #[.slice A4 (k + 1) c4, .slice B2 (ws.length - k) c2]).run Tryd.prog V4 = .ok (.slice A5 (ws.length + 1) c5) V5 ∧ MorePost W ws k br (.slice A5 (ws.length + 1) c5) V5) ∧
    (∃ A3 c3 V3, (Builtin.append_ #[32, 32] 32 #[.slice (some ⟨W.heap.size, 0, none⟩) 0 0, .slice B1 k c1]).run Tryd.prog ((W.alloc (.cells #[] 35)).alloc (.cells (x3 br) 35)) = .ok (.slice A3 k c3) V3 ∧
      ∃ A4 c4 V4 A5 c5 V5, (Builtin.append_ #[32, 32] 32 #[.slice A3 k c3, .slice (some ⟨W.heap.size + 1, 0, none⟩) 1 1]).run Tryd.prog V3 = .ok (.slice A4 (k + 1) c4) V4 ∧
        (Builtin.append_ #[32, 32] 32 #[.slice A4 (k + 1) c4, .slice B2 (ws.length - k) c2]).run Tryd.prog V4 = .ok (.slice A5 (ws.length + 1) c5) V5 ∧ MorePost W ws k br (.slice A5 (ws.length + 1) c5) V5) ∧
    (∃ A3 c3 V3, (Builtin.append_ #[32, 32] 32 #[.slice (some ⟨W.heap.size + 1, 0, none⟩) 0 0, .slice B1 k c1]).run Tryd.prog ((W.alloc (.cells (x3 br) 35)).alloc (.cells #[] 35)) = .ok (.slice A3 k c3) V3 ∧
      ∃ A4 c4 V4 A5 c5 V5, (Builtin.append_ #[32, 32] 32 #[.slice A3 k c3, .slice (some ⟨W.heap.size, 0, none⟩) 1 1]).run Tryd.prog V3 = .ok (.slice A4 (k + 1) c4) V4 ∧
        (Builtin.append_ #[32, 32] 32 #[.slice A4 (k + 1) c4, .slice B2 (ws.length - k) c2]).run Tryd.prog V4 = .ok (.slice A5 (ws.length + 1) c5) V5 ∧ MorePost W ws k br (.slice A5 (ws.length + 1) c5) V5) := by
  have hP : (W.alloc (.cells #[] 35)).ownsRow W.heap.size 35 3 (.slice (some ⟨W.heap.size, 0, none⟩) 0 0) 0 [] := World.ownsRow_made W #[] 0 (Nat.le_refl _) (by simp [maxLen]) rfl
  have hbE : Below W.heap.size W (W.alloc (.cells #[] 35)) := (Below.refl _ _).alloc (Nat.le_refl _) _
  refine ⟨?_, ?_, ?_⟩
  · obtain ⟨A3, c3, V3, r3, o3, g3⟩ := runA _ W.heap.size _ 0 _ hP Bd B1 k c1 _ (h1.below hbE hBd) (one3 _) (by omega) (by simp)
    rw [Nat.zero_add] at r3 o3
    have hb3 : Below W.heap.size W V3 := hbE.grown g3 (by simp) (fun g hg => (hP.lt g hg).1)
    refine ⟨A3, c3, V3, r3, ?_⟩
    exact more_tail W _ Bd ws k br hk hl B2 c2 h2 hBd (hb3.alloc hb3.size _) A3 c3 (o3.alloc _) _ _ (rd_x V3 br)
  · have hbX : Below W.heap.size W ((W.alloc (.cells #[] 35)).alloc (.cells (x3 br) 35)) := hbE.alloc (by simp) _
    have hP2 := hP.alloc (.cells (x3 br) 35)
    obtain ⟨A3, c3, V3, r3, o3, g3⟩ := runA _ W.heap.size _ 0 _ hP2 Bd B1 k c1 _ (h1.below hbX hBd) (one3 _) (by omega) (by simp; omega)
    rw [Nat.zero_add] at r3 o3
    have hb3 : Below W.heap.size W V3 := hbX.grown g3 (by simp; omega) (fun g hg => (hP2.lt g hg).1)
    refine ⟨A3, c3, V3, r3, ?_⟩
    have hx := rd_x (W.alloc (.cells #[] 35)) br
    simp only [World.size_alloc] at hx
    have hx3 : Rd V3 (W.heap.size + 1 + 1) (some ⟨W.heap.size + 1, 0, none⟩) 1 3 (x3 br).toList := by
      refine ⟨hx.1, fun h => ?_⟩
      obtain ⟨b, o, e, hb, hc⟩ := hx.2 h
      cases e
      refine ⟨_, _, rfl, hb, fun j u hu => ?_⟩
      have hblk := g3.block (W.heap.size + 1) (by simp) (by simp [Value.ownBlock])
      have := hc j u hu
      unfold World.cell? at this ⊢
      simp only [hblk] at this ⊢
      exact this
    exact more_tail W _ Bd ws k br hk hl B2 c2 h2 hBd hb3 A3 c3 o3 _ _ hx3
  · have hbX : Below W.heap.size W (W.alloc (.cells (x3 br) 35)) := (Below.refl _ _).alloc (Nat.le_refl _) _
    have hP3 : ((W.alloc (.cells (x3 br) 35)).alloc (.cells #[] 35)).ownsRow (W.heap.size + 1) 35 3 (.slice (some ⟨W.heap.size + 1, 0, none⟩) 0 0) 0 [] := by
      have := World.ownsRow_made (W.alloc (.cells (x3 br) 35)) (e := 35) (size := 3) (base := (W.alloc (.cells (x3 br) 35)).heap.size) #[] 0 (Nat.le_refl _) (by simp [maxLen]) rfl
      simp only [World.size_alloc] at this ⊢
      exact this
    have hbE2 : Below W.heap.size W ((W.alloc (.cells (x3 br) 35)).alloc (.cells #[] 35)) := hbX.alloc (by simp) _
    obtain ⟨A3, c3, V3, r3, o3, g3⟩ := runA _ (W.heap.size + 1) _ 0 _ hP3 Bd B1 k c1 _ (h1.below hbE2 hBd) (one3 _) (by omega) (by simp)
    rw [Nat.zero_add] at r3 o3
    have hb3 : Below W.heap.size W V3 := hbE2.grown g3 (by simp; omega) (fun g hg => by have := (hP3.lt g hg).1; omega)
    refine ⟨A3, c3, V3, r3, ?_⟩
    have hx3 : Rd V3 (W.heap.size + 1) (some ⟨W.heap.size, 0, none⟩) 1 3 (x3 br).toList := ((rd_x W br).alloc (by simp) _).grown g3 (by simp) (fun g hg => (hP3.lt g hg).1)
    exact more_tail W _ Bd ws k br hk hl B2 c2 h2 hBd hb3 A3 c3 (ownsRow_base o3 (by omega)) _ _ hx3
end Go.Proofs.YtccnogdfnikioaaDoor
