/- The contract of fleuronlaw03.grid. -/
import Derived.Deep.RegionHeld3
import Derived.Test.YtfpdbdbgemolgaaRow
namespace Go.Proofs.Ytfpdbdbgemolgaa
open Go.RowKit

def gpt (x y : Int) (p : P3) : P2 := (wrap64 (p.1 + x), wrap64 (p.2.1 + y))
def gon (p : P3) : Bool := p.2.2
theorem info4 : (Try.prog.info? 4).map (fun i => (i.zero, i.size, i.bytes)) = some (some (.bool false), 1, 1) := by kernel_rfl
theorem take_map_succ {α : Type} (g : P3 → α) (ps : List P3) (k : Nat) (p : P3) (h : ps[k]? = some p) : (ps.take (k + 1)).map g = (ps.take k).map g ++ [g p] := by
  obtain ⟨hk, hg⟩ := List.getElem?_eq_some_iff.1 h
  rw [List.take_succ_eq_append_getElem hk, hg]
  simp

/-- two rows come back: points and bools -/
def RetG (w : World) (pts : List P2) (on : List Bool) (e : Ending) (w' : World) : Prop :=
  ∃ A n c O co, e = .returned (.tuple #[.slice A n c, .slice O n co]) ∧ (n ≤ c ∧ c ≤ 9223372036854775807) ∧ (n ≤ co ∧ co ≤ 9223372036854775807) ∧ Rd w' w'.heap.size A n 2 (c2s pts) ∧ Rd w' w'.heap.size O n 1 (cBs on) ∧ Below w.heap.size w w'
theorem own_caps {w : World} {b : Nat} {e : TypeId} {s : Nat} {A : Option Addr} {n c : Nat} {xs : List Value} (h : w.ownsRow b e s (.slice A n c) n xs) : n ≤ c ∧ c ≤ 9223372036854775807 := by
  rcases h.2 with ⟨h, h0⟩ | ⟨g', cap', cur, h, _, _, h3, h4, _⟩
  · simp only [Value.slice.injEq] at h
    omega
  · simp only [Value.slice.injEq, true_and] at h
    obtain ⟨_, rfl⟩ := h
    simp only [maxLen] at h4
    omega

set_option maxRecDepth 100000 in
set_option maxHeartbeats 4000000 in
theorem grid_ok (w : World) (B : Nat) (A E : Option Addr) (n c m d : Nat) (ps : List P3) (x y : Int) (hA : Rd w B A n 3 (c3s ps)) (hB : B ≤ w.heap.size) (hn : n ≤ 40000) :
    Calls Try.prog 25 #[.agg #[.slice A n c, .slice E m d], .int .i64 x, .int .i64 y] w (RetG w (ps.map (gpt x y)) (ps.map gon)) := by
  obtain ⟨i0, hi0, hz0, hz1, hz2⟩ := info_parts info47
  obtain ⟨j0, hj0, hy0, hy1, hy2⟩ := info_parts info4
  have hlen := Lib.hid hA.len3
  go_enter Try.func25, Try.ntmps25
  go_wp2_with fail
  have hb1 : Bk (w.alloc (.cells #[.slice A n c, .slice E m d] 25)) w.heap.size 25 #[.slice A n c, .slice E m d] := Bk.new _ _ _
  have hP : ((w.alloc (.cells #[.slice A n c, .slice E m d] 25)).alloc (.cells #[] 47)).ownsRow (w.heap.size + 1) 47 2 (.slice (some ⟨w.heap.size + 1, 0, none⟩) 0 0) 0 [] := by
    have h := World.ownsRow_made (size := 2) (e := 47) (base := w.heap.size + 1) (w.alloc (.cells #[.slice A n c, .slice E m d] 25)) #[] 0 (by simp) (by simp [maxLen]) rfl
    simpa using h
  have hQ : (((w.alloc (.cells #[.slice A n c, .slice E m d] 25)).alloc (.cells #[] 47)).alloc (.cells #[] 4)).ownsRow (w.heap.size + 1) 4 1 (.slice (some ⟨w.heap.size + 1 + 1, 0, none⟩) 0 0) 0 [] := by
    have h := World.ownsRow_made (size := 1) (e := 4) (base := w.heap.size + 1) ((w.alloc (.cells #[.slice A n c, .slice E m d] 25)).alloc (.cells #[] 47)) #[] 0 (by simp) (by simp [maxLen]) rfl
    simpa using h
  go_loopw [8, 9, 10] (fun v u i wr => ∃ k : Nat, k ≤ n ∧ i = .int .i64 k ∧ wr.ownsRow (w.heap.size + 1) 47 2 v k (c2s ((ps.take k).map (gpt x y))) ∧ wr.ownsRow (w.heap.size + 1) 4 1 u k (cBs ((ps.take k).map gon)) ∧ Bk wr w.heap.size 25 #[.slice A n c, .slice E m d] ∧ Below w.heap.size w wr) (fun _ _ i _ => n - (intOf i).toNat)
  case atStart => exact ⟨0, by omega, rfl, hP.alloc _, hQ, (hb1.alloc _).alloc _, (((Below.refl _ _).alloc (Nat.le_refl _) _).alloc (by simp) _).alloc (by simp; omega) _⟩
  case round =>
    obtain ⟨k, hk, rfl, how, hou, hbo, hbl⟩ := hrel
    obtain ⟨A1, c1, rfl, -⟩ := Rd.of_own how
    obtain ⟨O1, co1, rfl, -⟩ := Rd.of_own hou
    have q0 : wr.cell? ⟨w.heap.size, 0, none⟩ = some (.slice A n c) := hbo.cell 0
    have hszr := hbo.lt
    by_cases hlt : k < n
    · obtain ⟨b, o, px, py, pz, rfl, hbB, hp, h1, h2, h3⟩ := (hA.below hbl hB).at3 hlt
      have s1 := Lib.hid (take_map_succ (gpt x y) ps k _ hp.out)
      have s2 := Lib.hid (take_map_succ gon ps k _ hp.out)
      have hneo : Hid (some w.heap.size ≠ (Value.slice A1 k c1).ownBlock) := fun e => by have := (how.lt _ e.symm).1; omega
      have hneb : Hid (some b ≠ (Value.slice A1 k c1).ownBlock) := fun e => by have := (how.lt _ e.symm).1; omega
      have zk : (k : Int) < (n : Int) := by omega
      have zk0 : (0 : Int) ≤ (k : Int) := by omega
      have zb : b < wr.heap.size := by omega
      have gx1 : Hid (IntKind.i64.wrap (px + x) = wrap64 (px + x)) := IntWalk.i64_left _
      have gx2 : Hid (IntKind.i64.wrap (py + y) = wrap64 (py + y)) := IntWalk.i64_left _
      go_wp2_with fail
      go_region_held3 (fun w' => w'.cell? ⟨w.heap.size, 0, none⟩ = some (.slice (some ⟨b, o, none⟩) n c) ∧ w'.cell? ⟨b, o + k * 3, none⟩ = some (.int .i64 px) ∧ w'.cell? ⟨b, o + k * 3 + 1, none⟩ = some (.int .i64 py))
        (first
          | go_keep
          | (go_split_ands
             refine ⟨?_, ?_, ?_⟩
             · (rw [hg1.cell_far _ (by simp; omega) hneo.out]; assumption)
             · (rw [hg1.cell_far _ (by simp; omega) hneb.out]; assumption)
             · (rw [hg1.cell_far _ (by simp; omega) hneb.out]; assumption)))
        (first
          | (refine step_append_any _ (by rfl) (.tmp 20) (.tmp 38) 32 (by rfl) (w.heap.size + 1) 47 i0 _ 2 16 Try.underlying32 hi0 hz0 hz1 hz2 rfl (by decide) (.slice A1 k c1) k _ (by go_simp) (by exact (how.alloc _).drew) (wr.heap.size + 1) (some ⟨wr.heap.size, 0, none⟩) 1 1 [.int .i64 (IntKind.i64.wrap (px + x)), .int .i64 (IntKind.i64.wrap (py + y))] (by go_simp) (by exact Rd.drew (Rd.newAt _ _ (by simp) #[.int .i64 (IntKind.i64.wrap (px + x)), .int .i64 (IntKind.i64.wrap (py + y))] 47 1 2 rfl)) (by simp [Value.oneCell']) (by simp only [maxLen]; omega) (by omega) (by simp; omega) ?_; intro v1 w1 hown1 hg1 _))
      have how' : ((wr.alloc (.cells #[.int .i64 (IntKind.i64.wrap (px + x)), .int .i64 (IntKind.i64.wrap (py + y))] 47)).drew).ownsRow (w.heap.size + 1) 47 2 (.slice A1 k c1) k (c2s ((ps.take k).map (gpt x y))) := (how.alloc _).drew
      have hou' : ((wr.alloc (.cells #[.int .i64 (IntKind.i64.wrap (px + x)), .int .i64 (IntKind.i64.wrap (py + y))] 47)).drew).ownsRow (w.heap.size + 1) 4 1 (.slice O1 k co1) k (cBs ((ps.take k).map gon)) := (hou.alloc _).drew
      have hou1 := hou'.kept hg1 (own_ne hou' how' (by decide))
      have hbo1 : Bk w1 w.heap.size 25 #[.slice (some ⟨b, o, none⟩) n c, .slice E m d] := (hg1.block _ (by simp; omega) hneo.out).trans (hbo.alloc _).drew
      have hbl1 : Below w.heap.size w w1 := (hbl.alloc (by omega) _).drew.grown hg1 (by simp; omega) (fun g hg => by have := (how.lt g hg).1; omega)
      have r0 : w1.cell? ⟨w.heap.size, 0, none⟩ = some (.slice (some ⟨b, o, none⟩) n c) := hbo1.cell 0
      have r3 : w1.cell? ⟨b, o + k * 3 + 2, none⟩ = some (.bool pz) := (hbl1.cell (p := ⟨b, o + k * 3 + 2, none⟩) (by simp; omega)).trans ((hbl.cell (p := ⟨b, o + k * 3 + 2, none⟩) (by simp; omega)).symm.trans h3)
      have zs1 := hbo1.lt
      have zb1 : b < w1.heap.size := by omega
      have hneo2 : Hid (some w.heap.size ≠ (Value.slice O1 k co1).ownBlock) := fun e => by have := (hou.lt _ e.symm).1; omega
      have hown2 : w1.ownsRow (w.heap.size + 1) 47 2 v1 (k + 1) (c2s ((ps.take (k + 1)).map (gpt x y))) := by
        rw [s1.out, c2s_append]
        have : c2s [gpt x y (px, py, pz)] = [.int .i64 (IntKind.i64.wrap (px + x)), .int .i64 (IntKind.i64.wrap (py + y))] := by
          rw [gx1.out, gx2.out]
          rfl
        rw [this]
        exact hown1
      obtain ⟨A2, c2', rfl, -⟩ := Rd.of_own hown2
      clear hg1 hown1 how' hou' h1 h2 h3 q0
      go_wp2_with (at_builtin; refine wpList_append_any _ rfl (.tmp 40) (.tmp 47) 33 rfl (w.heap.size + 1) 4 j0 _ 1 1 Try.underlying33 hj0 hy0 hy1 hy2 rfl (by decide) (.slice O1 k co1) k _ rfl (hou1.alloc _) (w1.heap.size + 1) (some ⟨w1.heap.size, 0, none⟩) 1 1 [.bool pz] rfl (by exact Rd.newAt _ _ (by simp) #[.bool pz] 4 1 1 rfl) (by simp [Value.oneCell']) (by simp only [maxLen]; omega) (by omega) (by simp; omega) ?_; intro v2 w2 hown3 hg2 _)
      go_roundw
      case rel =>
        have hou1' := hou1.alloc (.cells #[.bool pz] 4)
        have h5 := hown2.alloc (.cells #[.bool pz] 4)
        refine ⟨k + 1, by omega, by go_num, h5.kept hg2 (own_ne h5 hou1' (by decide)), ?_, (hg2.block _ (by simp; omega) hneo2.out).trans (hbo1.alloc _), (hbl1.alloc (by omega) _).grown hg2 (by simp; omega) (fun g hg => by have := (hou.lt g hg).1; omega)⟩
        rw [s2.out]
        simpa [cBs, gon] using hown3
      case measure => simp [intOf]; omega
    · go_wp2_with fail
      go_ret2
      have hkk : ps.take k = ps := List.take_of_length_le (by rw [hlen.out]; omega)
      rw [hkk] at how hou
      obtain ⟨Aw, cw, e1, r1⟩ := Rd.of_own how
      obtain ⟨Ow, cow, e2, r2⟩ := Rd.of_own hou
      simp only [Value.slice.injEq, true_and] at e1 e2
      obtain ⟨rfl, rfl⟩ := e1
      obtain ⟨rfl, rfl⟩ := e2
      exact ⟨A1, k, c1, O1, co1, by simp, own_caps how, own_caps hou, r1, r2, hbl⟩
end Go.Proofs.Ytfpdbdbgemolgaa
