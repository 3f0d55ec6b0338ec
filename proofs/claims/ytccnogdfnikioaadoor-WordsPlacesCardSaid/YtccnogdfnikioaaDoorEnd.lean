/- The contract of the function 'end' inside words.split. -/
import Derived.Test.YtccnogdfnikioaaDoorLeaf
import Derived.Test.YtccnogdfnikioaaDoorPureLines
import Derived.Deep.RegionHeld3
import Derived.Deep.RegionLaw
import Derived.Lib.OthersKept
import Derived.Outline
import Derived.BigRegion
namespace Go.Proofs.YtccnogdfnikioaaDoor
open Go.RowKit
attribute [-go_sem] Builtin.append_

theorem info35 : (Tryd.prog.info? 35).map (fun i => (i.zero, i.size, i.bytes)) = some (some (.agg #[.int .i64 0, .int .i64 0, .string ⟨#[]⟩]), 3, 32) := by kernel_rfl
/-- the boxes of words.split: the line, its number, the words told, where the open one began -/
def Boxes (h : Nat) (s : B) (n : Nat) (f : Int) (ws : List P3) (W : World) : Prop :=
  Bk W h 9 #[.string ⟨s.toArray⟩] ∧ Bk W (h + 1) 3 #[.int .i64 n] ∧ Bk W (h + 1 + 1 + 1) 3 #[.int .i64 f] ∧
    ∃ A c, Bk W (h + 1 + 1) 32 #[.slice A ws.length c] ∧ W.ownsRow (h + 1 + 1 + 1 + 1) 35 3 (.slice A ws.length c) ws.length (c3s ws)
def EndPost (h : Nat) (s : B) (n : Nat) (ws : List P3) (W : World) (e : Ending) (W' : World) : Prop :=
  e = .returned (.tuple #[]) ∧ Boxes h s n (-1) ws W' ∧ Below h W W' ∧ KeepsOthers W W'
set_option maxHeartbeats 2000000 in
theorem end_no (W : World) (h : Nat) (s : B) (n t : Nat) (ws : List P3) (hb : Boxes h s n (-1) ws W) :
    Calls Tryd.prog 34 #[.int .i64 t, .pointer (some ⟨h + 1 + 1 + 1, 0, none⟩), .pointer (some ⟨h + 1 + 1, 0, none⟩), .pointer (some ⟨h + 1, 0, none⟩), .pointer (some ⟨h, 0, none⟩)] W (EndPost h s n ws W) := by
  obtain ⟨h1, h2, h3, A, c, h4, h5⟩ := hb
  have c3 : W.cell? ⟨h + 1 + 1 + 1, 0, none⟩ = some (.int .i64 (-1)) := h3.cell 0
  have f3 := h3.frozen 0
  have Hp : Hid (EndPost h s n ws W (.returned (.tuple #[])) (W.setCell ⟨h + 1 + 1 + 1, 0, none⟩ (.int .i64 (-1)))) := by
    refine ⟨rfl, ⟨h1.far (by simp; omega) _, h2.far (by simp) _, h3.set 0 _, A, c, h4.far (by simp) _, ?_⟩, (Below.refl _ _).setCell (by simp; omega) _, KeepsOthers.setCell _ _ _⟩
    exact ownsRow_setCell_below h5 (by simp) _
  clear h1 h2 h4 h5
  go_enter Tryd.func34, Tryd.ntmps34
  go_wp2
  go_end0
  exact Hp.out
set_option maxRecDepth 100000 in
set_option maxHeartbeats 4000000 in
theorem end_yes (W : World) (h : Nat) (s : B) (n f t : Nat) (ws : List P3) (hb : Boxes h s n f ws W) (hft : f ≤ t) (hts : t ≤ s.length) (hs : s.length ≤ 1000000) (hw : ws.length ≤ 1000000) :
    Calls Tryd.prog 34 #[.int .i64 t, .pointer (some ⟨h + 1 + 1 + 1, 0, none⟩), .pointer (some ⟨h + 1 + 1, 0, none⟩), .pointer (some ⟨h + 1, 0, none⟩), .pointer (some ⟨h, 0, none⟩)] W (EndPost h s n (ws ++ [((n : Int), (f : Int), (s.take t).drop f)]) W) := by
  obtain ⟨i0, hi0, hz0, hz1, hz2⟩ := info_parts info35
  obtain ⟨h1, h2, h3, A, c, h4, h5⟩ := hb
  have k1 : W.cell? ⟨h, 0, none⟩ = some (.string ⟨s.toArray⟩) := h1.cell 0
  have k2 : W.cell? ⟨h + 1, 0, none⟩ = some (.int .i64 n) := h2.cell 0
  have k3 : W.cell? ⟨h + 1 + 1 + 1, 0, none⟩ = some (.int .i64 f) := h3.cell 0
  have k4 : W.cell? ⟨h + 1 + 1, 0, none⟩ = some (.slice A ws.length c) := h4.cell 0
  have f3 := h3.frozen 0
  have f4 := h4.frozen 0
  have zl := h3.lt
  have hex : (ByteArray.mk s.toArray).extract f t = ⟨((s.take t).drop f).toArray⟩ := extract_list s f t
  obtain ⟨T, hT⟩ : ∃ T, (s.take t).drop f = T := ⟨_, rfl⟩
  rw [hT] at hex ⊢
  clear hT
  have hlow : Hid (∀ k, k < h + 1 + 1 + 1 + 1 → some k ≠ (Value.slice A ws.length c).ownBlock) := fun k hk e => by have := (h5.lt k e.symm).1; omega
  have Hp : Hid (∀ (v1 : Value) (w1 : World), w1.ownsRow (h + 1 + 1 + 1 + 1) 35 3 v1 (ws.length + 1) (c3s ws ++ [.int .i64 n, .int .i64 f, .string ⟨T.toArray⟩]) → (W.alloc (.cells #[.int .i64 n, .int .i64 f, .string ⟨T.toArray⟩] 35)).drew.grownBy w1 (Value.slice A ws.length c).ownBlock →
      EndPost h s n (ws ++ [((n : Int), (f : Int), T)]) W (.returned (.tuple #[])) ((w1.setCell ⟨h + 1 + 1, 0, none⟩ v1).setCell ⟨h + 1 + 1 + 1, 0, none⟩ (.int .i64 (-1)))) := by
    intro v1 w1 hown hg
    obtain ⟨A1, c1, rfl, -⟩ := Rd.of_own hown
    have hfar : ∀ k, k < h + 1 + 1 + 1 + 1 → w1.heap[k]? = W.heap[k]? := fun k hk => (hg.block k (by simp; omega) (hlow.out k hk)).trans (Below.heap_alloc _ _ _ (by omega))
    have b1 : Bk w1 h 9 _ := (hfar _ (by omega)).trans h1
    have b2 : Bk w1 (h + 1) 3 _ := (hfar _ (by omega)).trans h2
    have b3 : Bk w1 (h + 1 + 1 + 1) 3 _ := (hfar _ (by omega)).trans h3
    have b4 : Bk w1 (h + 1 + 1) 32 _ := (hfar _ (by omega)).trans h4
    refine ⟨rfl, ⟨(b1.far (by simp; omega) _).far (by simp; omega) _, (b2.far (by simp) _).far (by simp) _, (b3.far (by simp) _).set 0 _, A1, c1, ?_, ?_⟩, ?_, ?_⟩
    · have := (b4.set 0 (.slice A1 (ws.length + 1) c1)).far (p := ⟨h + 1 + 1 + 1, 0, none⟩) (by simp) (.int .i64 (-1))
      simpa using this
    · have := ownsRow_setCell_below (ownsRow_setCell_below hown (a := ⟨h + 1 + 1, 0, none⟩) (by simp) (.slice A1 (ws.length + 1) c1)) (a := ⟨h + 1 + 1 + 1, 0, none⟩) (by simp) (.int .i64 (-1))
      rw [c3s_append]
      simpa [c3s, c3] using this
    · exact ((((Below.refl h W).alloc (by omega) _).drew.grown hg (by simp; omega) (fun g hg' => by have := (h5.lt g hg').1; omega)).setCell (by simp; omega) _).setCell (by simp; omega) _
    · have ka : KeepsOthers W (W.alloc (.cells #[.int .i64 n, .int .i64 f, .string ⟨T.toArray⟩] 35)).drew := ⟨(KeepsOthers.alloc W _).size, (KeepsOthers.alloc W _).same⟩
      refine KeepsOthers.trans (KeepsOthers.trans (KeepsOthers.trans ka (KeepsOthers.of_grownBy hg (fun j o hj ho => ?_))) (KeepsOthers.setCell _ _ _)) (KeepsOthers.setCell _ _ _)
      obtain ⟨cur, hk⟩ := own_bk (h5.alloc (.cells #[.int .i64 n, .int .i64 f, .string ⟨T.toArray⟩] 35)) j hj
      have hk2 : (W.alloc (.cells #[.int .i64 n, .int .i64 f, .string ⟨T.toArray⟩] 35)).drew.heap[j]? = _ := hk
      rw [hk2] at ho
      cases ho
      rfl
  obtain ⟨v1, w1, hrun, hown1, hg1, -⟩ := run_append_any (P := Tryd.prog) ((W.alloc (.cells #[.int .i64 n, .int .i64 f, .string ⟨T.toArray⟩] 35)).drew) (h + 1 + 1 + 1 + 1) 32 32 35 i0 _ 3 32 Tryd.underlying32 hi0 hz0 hz1 hz2 rfl (by decide) (.slice A ws.length c) ws.length (c3s ws) (h5.alloc _).drew (W.heap.size + 1) (some ⟨W.heap.size, 0, none⟩) 1 1 [.int .i64 n, .int .i64 f, .string ⟨T.toArray⟩] (Rd.drew (Rd.newAt _ _ (by simp) #[.int .i64 n, .int .i64 f, .string ⟨T.toArray⟩] 35 1 3 rfl)) (by simp [Value.oneCell']) (by simp only [maxLen]; omega) (by omega) (by simp; omega)
  obtain ⟨A1, c1, rfl, -⟩ := Rd.of_own hown1
  have Hp2 := Lib.hid (Hp.out _ _ hown1 hg1)
  have b4 : Bk w1 (h + 1 + 1) 32 #[.slice A ws.length c] := (hg1.block (h + 1 + 1) (by simp; omega) (hlow.out _ (by omega))).trans (h4.alloc _)
  have x4 : w1.cell? ⟨h + 1 + 1, 0, none⟩ = some (.slice A ws.length c) := b4.cell 0
  have y4 : w1.frozen? ⟨h + 1 + 1, 0, none⟩ = false := b4.frozen 0
  have b3 : Bk w1 (h + 1 + 1 + 1) 3 #[.int .i64 f] := (hg1.block (h + 1 + 1 + 1) (by simp; omega) (hlow.out _ (by omega))).trans (h3.alloc _)
  have x3 : w1.cell? ⟨h + 1 + 1 + 1, 0, none⟩ = some (.int .i64 f) := b3.cell 0
  have y3 : w1.frozen? ⟨h + 1 + 1 + 1, 0, none⟩ = false := b3.frozen 0
  have q4 : (W.alloc (.cells #[.int .i64 n, .int .i64 f, .string ⟨T.toArray⟩] 35)).cell? ⟨h + 1 + 1, 0, none⟩ = some (.slice A ws.length c) := (h4.alloc _).cell 0
  clear hown1 hg1 b3 b4 h1 h2 h3 h4 h5 hlow Hp hi0 hz0 hz1 hz2
  go_enter Tryd.func34, Tryd.ntmps34
  go_wp2_with fail
  go_region
  all_goals
    go_wp2
    go_end0
    exact Hp2.out
end Go.Proofs.YtccnogdfnikioaaDoor
