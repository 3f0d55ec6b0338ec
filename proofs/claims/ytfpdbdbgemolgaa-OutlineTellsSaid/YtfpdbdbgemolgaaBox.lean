/- The contract of outline.Box. -/
import Derived.Lib.MinMax
import Derived.Deep.CutRange
import Derived.Deep.DeepCutAuto
import Derived.Test.YtfpdbdbgemolgaaCuts
namespace Go.Proofs.Ytfpdbdbgemolgaa
open Go.RowKit

/-- block g is just these cells, none frozen -/
def Bk (w : World) (g : Nat) (t : TypeId) (cs : Array Value) : Prop := w.heap[g]? = some (.cells cs t (0, 0))
theorem Bk.cell {w : World} {g : Nat} {t : TypeId} {cs : Array Value} (h : Bk w g t cs) (i : Nat) : w.cell? ⟨g, i, none⟩ = cs[i]? := by
  unfold Bk at h
  simp [World.cell?, h]
theorem Bk.frozen {w : World} {g : Nat} {t : TypeId} {cs : Array Value} (h : Bk w g t cs) (i : Nat) : w.frozen? ⟨g, i, none⟩ = false := by
  unfold Bk at h
  simp [World.frozen?, h]
theorem Bk.lt {w : World} {g : Nat} {t : TypeId} {cs : Array Value} (h : Bk w g t cs) : g < w.heap.size := (Array.getElem?_eq_some_iff.1 h).1
theorem Bk.alloc {w : World} {g : Nat} {t : TypeId} {cs : Array Value} (h : Bk w g t cs) (o : Obj) : Bk (w.alloc o) g t cs := (Below.heap_alloc w o g h.lt).trans h
theorem Bk.set {w : World} {g : Nat} {t : TypeId} {cs : Array Value} (h : Bk w g t cs) (i : Nat) (u : Value) : Bk (w.setCell ⟨g, i, none⟩ u) g t (cs.setIfInBounds i u) := by
  unfold Bk at h ⊢
  simp [World.setCell, Array.getElem?_modify, h]
theorem Bk.far {w : World} {g : Nat} {t : TypeId} {cs : Array Value} (h : Bk w g t cs) {p : Addr} (hp : g ≠ p.block) (u : Value) : Bk (w.setCell p u) g t cs := (Below.heap_setCell w p u g hp).trans h
theorem Bk.drew {w : World} {g : Nat} {t : TypeId} {cs : Array Value} (h : Bk w g t cs) : Bk w.drew g t cs := h

/-- min and max, shut to the walk -/
def mnI (a b : Int) : Int := min a b
def mxI (a b : Int) : Int := max a b
theorem run_max_mxI {P : Program} (w : World) (ts : Array TypeId) (t : TypeId) (k k' : IntKind) (x y : Int) : (Builtin.max_ ts t #[.int k x, .int k' y]).run P w = .ok (.int k (mxI x y)) w := Lib.run_max_ints w ts t k k' x y
theorem run_min_mnI {P : Program} (w : World) (ts : Array TypeId) (t : TypeId) (k k' : IntKind) (x y : Int) : (Builtin.min_ ts t #[.int k x, .int k' y]).run P w = .ok (.int k (mnI x y)) w := Lib.run_min_ints w ts t k k' x y
attribute [-go_sem] Lib.run_max_ints Lib.run_min_ints
attribute [local go_sem high] run_max_mxI run_min_mnI

/-- the least and the greatest of numbers, from one on -/
def mnF (f : P3 → Int) (z : Int) (ps : List P3) : Int := ps.foldl (fun a p => mnI a (f p)) z
def mxF (f : P3 → Int) (z : Int) (ps : List P3) : Int := ps.foldl (fun a p => mxI a (f p)) z
theorem mnF_succ (f : P3 → Int) (z : Int) (ps : List P3) (k : Nat) (p : P3) (h : ps[k]? = some p) : mnF f z (ps.take (k + 1)) = mnI (mnF f z (ps.take k)) (f p) := by
  obtain ⟨hk, hg⟩ := List.getElem?_eq_some_iff.1 h
  rw [List.take_succ_eq_append_getElem hk, hg]
  simp [mnF]
theorem mxF_succ (f : P3 → Int) (z : Int) (ps : List P3) (k : Nat) (p : P3) (h : ps[k]? = some p) : mxF f z (ps.take (k + 1)) = mxI (mxF f z (ps.take k)) (f p) := by
  obtain ⟨hk, hg⟩ := List.getElem?_eq_some_iff.1 h
  rw [List.take_succ_eq_append_getElem hk, hg]
  simp [mxF]
def pX (p : P3) : Int := p.1
def pY (p : P3) : Int := p.2.1
/-- the corners -/
def lowP (ps : List P3) : P2 := match ps with
  | [] => (0, 0)
  | p :: _ => (mnF pX p.1 ps, mnF pY p.2.1 ps)
def highP (ps : List P3) : P2 := match ps with
  | [] => (0, 0)
  | p :: _ => (mxF pX p.1 ps, mxF pY p.2.1 ps)

theorem lowP_of (ps : List P3) (x y : Int) (z : Bool) (h : ps[0]? = some (x, y, z)) : lowP ps = (mnF pX x ps, mnF pY y ps) ∧ highP ps = (mxF pX x ps, mxF pY y ps) := by
  cases ps with
  | nil => simp at h
  | cons p ps => simp at h; subst h; exact ⟨rfl, rfl⟩

set_option maxHeartbeats 2000000 in
theorem box_ok (w : World) (B : Nat) (A E : Option Addr) (n c m d : Nat) (ps : List P3) (hA : Rd w B A n 3 (c3s ps)) (hB : B ≤ w.heap.size) (hn : n ≤ 9223372036854775807) :
    Calls Try.prog 24 #[.agg #[.slice A n c, .slice E m d]] w fun e w' => e = .returned (.tuple #[.agg #[.int .i64 (lowP ps).1, .int .i64 (lowP ps).2, .bool false], .agg #[.int .i64 (highP ps).1, .int .i64 (highP ps).2, .bool false], .bool (decide (0 < ps.length))]) ∧ Below w.heap.size w w' := by
  by_cases h0 : n = 0
  · have hps : ps = [] := List.eq_nil_of_length_eq_zero (by rw [hA.len3]; exact h0)
    subst h0
    subst hps
    go_enter Try.func24, Try.ntmps24
    go_wp2
    exact bodyPost_ret (v := .tuple #[.agg #[.int .i64 0, .int .i64 0, .bool false], .agg #[.int .i64 0, .int .i64 0, .bool false], .bool false]) (by simp [results, Try.results24, go_sem]) rfl ⟨rfl, (((Below.refl _ _).alloc (Nat.le_refl _) _).alloc (by simp) _).alloc (by simp; omega) _⟩
  · have hl0 := hA.len3
    obtain ⟨b, o, x0, y0, z0, rfl, hbB, hp0, q1, q2, q3⟩ := hA.at3 (k := 0) (by omega)
    have Hlow := Lib.hid (lowP_of ps x0 y0 z0 hp0.out)
    have Hl := Lib.hid hl0
    clear hl0 hp0
    have hz : ((n : Int) == 0) = false := by simp; omega
    have hbw : b < w.heap.size := by omega
    simp only [Nat.zero_mul, Nat.add_zero] at q1 q2 q3
    have hpos : 0 < n := by omega
    clear h0
    go_enter Try.func24, Try.ntmps24
    go_wp2_with fail
    obtain ⟨W0, hW0⟩ : ∃ W0, ((w.alloc (.cells #[.slice (some ⟨b, o, none⟩) n c, .slice E m d] 25)).alloc (.cells #[.int .i64 0, .int .i64 0, .bool false] 40)).alloc (.cells #[.int .i64 0, .int .i64 0, .bool false] 40) = W0 := ⟨_, rfl⟩
    have hs0 : W0.heap.size = w.heap.size + 3 := by rw [← hW0]; simp
    have hb0 : Below w.heap.size w W0 := by rw [← hW0]; exact (((Below.refl _ _).alloc (Nat.le_refl _) _).alloc (by simp) _).alloc (by simp; omega) _
    have hO0 : W0.cell? ⟨w.heap.size, 0, none⟩ = some (.slice (some ⟨b, o, none⟩) n c) := by rw [← hW0]; simp [go_sem]
    have hL0 : Bk W0 (w.heap.size + 1) 40 #[.int .i64 0, .int .i64 0, .bool false] := by
      rw [← hW0]
      refine Bk.alloc ?_ _
      have h : Bk ((w.alloc (.cells #[.slice (some ⟨b, o, none⟩) n c, .slice E m d] 25)).alloc (.cells #[.int .i64 0, .int .i64 0, .bool false] 40)) (w.alloc (.cells #[.slice (some ⟨b, o, none⟩) n c, .slice E m d] 25)).heap.size 40 #[.int .i64 0, .int .i64 0, .bool false] := heap_alloc_new _ _
      rwa [World.size_alloc] at h
    have hH0 : Bk W0 (w.heap.size + 1 + 1) 40 #[.int .i64 0, .int .i64 0, .bool false] := by
      rw [← hW0]
      have h : Bk (((w.alloc (.cells #[.slice (some ⟨b, o, none⟩) n c, .slice E m d] 25)).alloc (.cells #[.int .i64 0, .int .i64 0, .bool false] 40)).alloc (.cells #[.int .i64 0, .int .i64 0, .bool false] 40)) ((w.alloc (.cells #[.slice (some ⟨b, o, none⟩) n c, .slice E m d] 25)).alloc (.cells #[.int .i64 0, .int .i64 0, .bool false] 40)).heap.size 40 #[.int .i64 0, .int .i64 0, .bool false] := heap_alloc_new _ _
      rwa [World.size_alloc, World.size_alloc] at h
    rw [hW0]
    clear hW0
    have r1 := (hb0.cell (p := ⟨b, o, none⟩) hbw).trans q1
    have r2 := (hb0.cell (p := ⟨b, o + 1, none⟩) hbw).trans q2
    have r3 := (hb0.cell (p := ⟨b, o + 2, none⟩) hbw).trans q3
    have l0 : W0.cell? ⟨w.heap.size + 1, 0, none⟩ = some (.int .i64 0) := hL0.cell 0
    have l1 : W0.cell? ⟨w.heap.size + 1, 1, none⟩ = some (.int .i64 0) := hL0.cell 1
    have l2 : W0.cell? ⟨w.heap.size + 1, 2, none⟩ = some (.bool false) := hL0.cell 2
    have m0 : W0.cell? ⟨w.heap.size + 1 + 1, 0, none⟩ = some (.int .i64 0) := hH0.cell 0
    have m1 : W0.cell? ⟨w.heap.size + 1 + 1, 1, none⟩ = some (.int .i64 0) := hH0.cell 1
    have m2 : W0.cell? ⟨w.heap.size + 1 + 1, 2, none⟩ = some (.bool false) := hH0.cell 2
    have lf : ∀ i, W0.frozen? ⟨w.heap.size + 1, i, none⟩ = false := hL0.frozen
    have mf : ∀ i, W0.frozen? ⟨w.heap.size + 1 + 1, i, none⟩ = false := hH0.frozen
    have Hs := Lib.hid hs0
    clear hs0
    go_region
    go_wp2_with fail
    obtain ⟨W1, hW1⟩ : ∃ W1, ((((((W0.setCell ⟨w.heap.size + 1, 0, none⟩ (.int .i64 x0)).setCell ⟨w.heap.size + 1, 1, none⟩ (.int .i64 y0)).setCell ⟨w.heap.size + 1, 2, none⟩ (.bool false)).setCell ⟨w.heap.size + 1 + 1, 0, none⟩ (.int .i64 x0)).setCell ⟨w.heap.size + 1 + 1, 1, none⟩ (.int .i64 y0)).setCell ⟨w.heap.size + 1 + 1, 2, none⟩ (.bool false)).drew = W1 := ⟨_, rfl⟩
    have hL1 : Bk W1 (w.heap.size + 1) 40 #[.int .i64 x0, .int .i64 y0, .bool false] := by
      rw [← hW1]
      exact (((((((hL0.set 0 _).set 1 _).set 2 _).far (by simp) _).far (by simp) _).far (by simp) _).drew)
    have hH1 : Bk W1 (w.heap.size + 1 + 1) 40 #[.int .i64 x0, .int .i64 y0, .bool false] := by
      rw [← hW1]
      exact (((((((hH0.far (by simp) _).far (by simp) _).far (by simp) _).set 0 _).set 1 _).set 2 _).drew)
    have hb1 : Below w.heap.size w W1 := by
      rw [← hW1]
      exact ((((((hb0.setCell (by simp) _).setCell (by simp) _).setCell (by simp) _).setCell (by simp; omega) _).setCell (by simp; omega) _).setCell (by simp; omega) _).drew
    rw [hW1]
    clear hW1 l0 l1 l2 m0 m1 m2 lf mf r1 r2 r3 hL0 hH0 hO0
    go_loopw [28] (fun i wr => ∃ k : Nat, k ≤ n ∧ i = .int .i64 k ∧ Bk wr (w.heap.size + 1) 40 #[.int .i64 (mnF pX x0 (ps.take k)), .int .i64 (mnF pY y0 (ps.take k)), .bool false] ∧ Bk wr (w.heap.size + 1 + 1) 40 #[.int .i64 (mxF pX x0 (ps.take k)), .int .i64 (mxF pY y0 (ps.take k)), .bool false] ∧ Below w.heap.size w wr) (fun i _ => n - (intOf i).toNat)
    case atStart => exact ⟨0, by omega, rfl, hL1, hH1, hb1⟩
    case round =>
      obtain ⟨k, hk, rfl, hLk, hHk, hbk⟩ := hrel
      by_cases hlt : k < n
      · obtain ⟨b', o', x, y, z, e1, -, hp, q1', q2', q3'⟩ := (hA.below hbk hB).at3 hlt
        simp only [Option.some.injEq, Addr.mk.injEq, and_true] at e1
        obtain ⟨rfl, rfl⟩ := e1
        have s1 := Lib.hid (mnF_succ pX x0 ps k _ hp.out)
        have s2 := Lib.hid (mnF_succ pY y0 ps k _ hp.out)
        have s3 := Lib.hid (mxF_succ pX x0 ps k _ hp.out)
        have s4 := Lib.hid (mxF_succ pY y0 ps k _ hp.out)
        generalize mnF pX x0 (ps.take k) = a1 at *
        generalize mnF pY y0 (ps.take k) = a2 at *
        generalize mxF pX x0 (ps.take k) = a3 at *
        generalize mxF pY y0 (ps.take k) = a4 at *
        have l0 : wr.cell? ⟨w.heap.size + 1, 0, none⟩ = some (.int .i64 a1) := hLk.cell 0
        have l1 : wr.cell? ⟨w.heap.size + 1, 1, none⟩ = some (.int .i64 a2) := hLk.cell 1
        have m0 : wr.cell? ⟨w.heap.size + 1 + 1, 0, none⟩ = some (.int .i64 a3) := hHk.cell 0
        have m1 : wr.cell? ⟨w.heap.size + 1 + 1, 1, none⟩ = some (.int .i64 a4) := hHk.cell 1
        have lf : ∀ i, wr.frozen? ⟨w.heap.size + 1, i, none⟩ = false := hLk.frozen
        have mf : ∀ i, wr.frozen? ⟨w.heap.size + 1 + 1, i, none⟩ = false := hHk.frozen
        have z1 : w.heap.size + 1 + 1 < wr.heap.size := hHk.lt
        have z2 : w.heap.size + 1 < wr.heap.size := by omega
        have z3 : w.heap.size < wr.heap.size := by omega
        have z4 : ¬ (wr.heap.size = w.heap.size + 1) := by omega
        have z5 : ¬ (wr.heap.size = w.heap.size + 1 + 1) := by omega
        have z6 : ¬ (w.heap.size + 1 = wr.heap.size) := by omega
        have z7 : ¬ (w.heap.size + 1 + 1 = wr.heap.size) := by omega
        go_upto_region 8 with fail
        go_cut [28] from 28 to 56 (fun s28 wx => s28 = .int .i64 k ∧ Bk wx (w.heap.size + 1) 40 #[.int .i64 (mnI a1 x), .int .i64 (mnI a2 y), .bool false] ∧ Bk wx (w.heap.size + 1 + 1) 40 #[.int .i64 a3, .int .i64 a4, .bool false] ∧ Bk wx wr.heap.size 40 #[.int .i64 x, .int .i64 y, .bool z] ∧ Below w.heap.size w wx)
        case first =>
          go_region
          go_wp2_with fail
          go_meet
          refine ⟨rfl, ?_, ?_, ?_, ?_⟩
          · exact (((hLk.set 0 _).set 1 _).alloc _).drew
          · exact (((hHk.far (by simp) _).far (by simp) _).alloc _).drew
          · have h : Bk (((wr.setCell ⟨w.heap.size + 1, 0, none⟩ (.int .i64 (mnI a1 x))).setCell ⟨w.heap.size + 1, 1, none⟩ (.int .i64 (mnI a2 y))).alloc (.cells #[.int .i64 x, .int .i64 y, .bool z] 40)) ((wr.setCell ⟨w.heap.size + 1, 0, none⟩ (.int .i64 (mnI a1 x))).setCell ⟨w.heap.size + 1, 1, none⟩ (.int .i64 (mnI a2 y))).heap.size 40 #[.int .i64 x, .int .i64 y, .bool z] := heap_alloc_new _ _
            have h' : Bk (((wr.setCell ⟨w.heap.size + 1, 0, none⟩ (.int .i64 (mnI a1 x))).setCell ⟨w.heap.size + 1, 1, none⟩ (.int .i64 (mnI a2 y))).alloc (.cells #[.int .i64 x, .int .i64 y, .bool z] 40)) wr.heap.size 40 #[.int .i64 x, .int .i64 y, .bool z] := by simpa using h
            exact h'.drew
          · exact (((hbk.setCell (by simp) _).setCell (by simp) _).alloc (by simp; omega) _).drew
        case rest =>
          obtain ⟨rfl, hL2, hH2, hP2, hb2⟩ := hcut
          have z8 : ¬ (w.heap.size + 1 + 1 = wr.heap.size) := by omega
          generalize wr.heap.size = pb at *
          have m0 : wc.cell? ⟨w.heap.size + 1 + 1, 0, none⟩ = some (.int .i64 a3) := hH2.cell 0
          have m1 : wc.cell? ⟨w.heap.size + 1 + 1, 1, none⟩ = some (.int .i64 a4) := hH2.cell 1
          have n0 : wc.cell? ⟨pb, 0, none⟩ = some (.int .i64 x) := hP2.cell 0
          have n1 : wc.cell? ⟨pb, 1, none⟩ = some (.int .i64 y) := hP2.cell 1
          have mf : ∀ i, wc.frozen? ⟨w.heap.size + 1 + 1, i, none⟩ = false := hH2.frozen
          clear l0 l1 lf q1' q2' q3' hLk hHk hbk
          go_wp2_with fail
          go_region
          go_wp2_with fail
          go_roundw
          case rel =>
            refine ⟨k + 1, by omega, by go_num, ?_, ?_, ?_⟩
            · rw [s1.out, s2.out]
              exact ((hL2.far (by simp) _).far (by simp) _).drew
            · rw [s3.out, s4.out]
              exact ((hH2.set 0 _).set 1 _).drew
            · exact ((hb2.setCell (by simp; omega) _).setCell (by simp; omega) _).drew
          case measure => simp [intOf]; omega
      · have l0 : wr.cell? ⟨w.heap.size + 1, 0, none⟩ = _ := hLk.cell 0
        have l1 : wr.cell? ⟨w.heap.size + 1, 1, none⟩ = _ := hLk.cell 1
        have l2 : wr.cell? ⟨w.heap.size + 1, 2, none⟩ = _ := hLk.cell 2
        have m0 : wr.cell? ⟨w.heap.size + 1 + 1, 0, none⟩ = _ := hHk.cell 0
        have m1 : wr.cell? ⟨w.heap.size + 1 + 1, 1, none⟩ = _ := hHk.cell 1
        have m2 : wr.cell? ⟨w.heap.size + 1 + 1, 2, none⟩ = _ := hHk.cell 2
        have lf : ∀ i, wr.frozen? ⟨w.heap.size + 1, i, none⟩ = false := hLk.frozen
        have mf : ∀ i, wr.frozen? ⟨w.heap.size + 1 + 1, i, none⟩ = false := hHk.frozen
        simp at l0 l1 l2 m0 m1 m2
        generalize hg1 : mnF pX x0 (ps.take k) = a1 at *
        generalize hg2 : mnF pY y0 (ps.take k) = a2 at *
        generalize hg3 : mxF pX x0 (ps.take k) = a3 at *
        generalize hg4 : mxF pY y0 (ps.take k) = a4 at *
        have hG1 := Lib.hid hg1
        have hG2 := Lib.hid hg2
        have hG3 := Lib.hid hg3
        have hG4 := Lib.hid hg4
        clear hg1 hg2 hg3 hg4
        go_wp2_with fail
        go_region
        go_wp2_with fail
        refine bodyPost_ret (v := .tuple #[.agg #[.int .i64 a1, .int .i64 a2, .bool false], .agg #[.int .i64 a3, .int .i64 a4, .bool false], .bool true]) (by simp [results, Try.results24, go_sem, l0, l1, l2, m0, m1, m2]) rfl ⟨?_, ?_⟩
        · have hk' : ps.take k = ps := List.take_of_length_le (by have := Hl.out; omega)
          rw [Hlow.out.1, Hlow.out.2, ← hG1.out, ← hG2.out, ← hG3.out, ← hG4.out, hk', decide_eq_true (by have := Hl.out; omega)]
        · exact ((((((hbk.setCell (by simp) _).setCell (by simp) _).setCell (by simp) _).setCell (by simp; omega) _).setCell (by simp; omega) _).setCell (by simp; omega) _).drew
end Go.Proofs.Ytfpdbdbgemolgaa
