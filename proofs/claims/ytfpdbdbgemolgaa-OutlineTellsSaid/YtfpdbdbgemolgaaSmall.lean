/- The contracts of outline.between, outline.curve, fleuronlaw03.square. -/
import Derived.Test.YtfpdbdbgemolgaaCuts
namespace Go.Proofs.Ytfpdbdbgemolgaa
open Go.RowKit

/-- halfway, cut down; and the point of a curve, with all of Go's wraps -/
def btw (a b : P2) : P2 := (wrap64 (a.1 + b.1) / 2, wrap64 (a.2 + b.2) / 2)
def mixP (s x x' x2 : Int) : Int :=
  wrap64 (wrap64 (wrap64 (wrap64 (wrap64 ((8 - s) * (8 - s)) * x) + wrap64 (wrap64 (2 * s * (8 - s)) * x')) + wrap64 (wrap64 (s * s) * x2)) + 32) / 64
def crv (a c b : P2) (s : Nat) : P2 := (mixP s a.1 c.1 b.1, mixP s a.2 c.2 b.2)
def vP2 (p : P2) : Value := .agg #[.int .i64 p.1, .int .i64 p.2]

set_option maxHeartbeats 1000000 in
theorem between_ok (w : World) (x y x' y' : Int) : Calls Try.prog 50 #[.agg #[.int .i64 x, .int .i64 y], .agg #[.int .i64 x', .int .i64 y']] w fun e w' =>
    e = .returned (.agg #[.int .i64 (btw (x, y) (x', y')).1, .int .i64 (btw (x, y) (x', y')).2]) ∧ ∃ o1 o2 o3, w' = ((w.alloc o1).alloc o2).alloc o3 := by
  go_enter Try.func50, Try.ntmps50
  go_wp2
  exact bodyPost_ret (v := .agg #[.int .i64 (btw (x, y) (x', y')).1, .int .i64 (btw (x, y) (x', y')).2]) (by simp [results, Try.results50, go_sem, btw]) rfl ⟨rfl, _, _, _, rfl⟩

set_option maxHeartbeats 1000000 in
theorem curve_ok (w : World) (x y x' y' x2 y2 : Int) (s : Nat) (h1 : 1 ≤ s) (h8 : s ≤ 8) : Calls Try.prog 49 #[.agg #[.int .i64 x, .int .i64 y], .agg #[.int .i64 x', .int .i64 y'], .agg #[.int .i64 x2, .int .i64 y2], .int .i64 s] w fun e w' =>
    e = .returned (.agg #[.int .i64 (crv (x, y) (x', y') (x2, y2) s).1, .int .i64 (crv (x, y) (x', y') (x2, y2) s).2]) ∧ ∃ o1 o2 o3 o4, w' = (((w.alloc o1).alloc o2).alloc o3).alloc o4 := by
  go_enter Try.func49, Try.ntmps49
  go_wp2
  exact bodyPost_ret (v := .agg #[.int .i64 (crv (x, y) (x', y') (x2, y2) s).1, .int .i64 (crv (x, y) (x', y') (x2, y2) s).2]) (by simp [results, Try.results49, go_sem, crv, mixP]) rfl ⟨rfl, _, _, _, _, rfl⟩

set_option maxHeartbeats 1000000 in
theorem square_ok (w : World) : Calls Try.prog 33 #[] w (RetO w [(0, 0, true), (4, 0, true), (4, 4, true), (0, 4, true)] [3]) := by
  go_enter Try.func33, Try.ntmps33
  go_wp2
  refine bodyPost_ret (v := .agg #[.slice (some ⟨w.heap.size + 1, 0, none⟩) 4 4, .slice (some ⟨w.heap.size + 1 + 1, 0, none⟩) 1 1]) (by simp [results, Try.results33, go_sem]) rfl ?_
  refine ⟨_, _, _, _, _, _, rfl, by omega, ?_, ?_, ?_⟩
  · have h := Rd.new (w.alloc (.cells #[.slice (some ⟨w.heap.size + 1, 0, none⟩) 4 4, .slice (some ⟨w.heap.size + 1 + 1, 0, none⟩) 1 1] 25)) #[.int .i64 0, .int .i64 0, .bool true, .int .i64 4, .int .i64 0, .bool true, .int .i64 4, .int .i64 4, .bool true, .int .i64 0, .int .i64 4, .bool true] 40 4 3 rfl
    simp only [World.size_alloc] at h
    exact (h.alloc (by simp) _).mono (by simp)
  · have h := Rd.new ((w.alloc (.cells #[.slice (some ⟨w.heap.size + 1, 0, none⟩) 4 4, .slice (some ⟨w.heap.size + 1 + 1, 0, none⟩) 1 1] 25)).alloc (.cells #[.int .i64 0, .int .i64 0, .bool true, .int .i64 4, .int .i64 0, .bool true, .int .i64 4, .int .i64 4, .bool true, .int .i64 0, .int .i64 4, .bool true] 40)) #[.int .i64 3] 3 1 1 rfl
    simp only [World.size_alloc] at h
    exact h.mono (by simp)
  · exact (((Below.refl _ _).alloc (Nat.le_refl _) _).alloc (by simp) _).alloc (by simp; omega) _
end Go.Proofs.Ytfpdbdbgemolgaa
