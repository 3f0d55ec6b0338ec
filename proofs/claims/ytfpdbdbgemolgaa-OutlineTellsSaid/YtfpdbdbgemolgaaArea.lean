/- The contract of outline.Area. -/
import Derived.Test.YtfpdbdbgemolgaaPieces
namespace Go.Proofs.Ytfpdbdbgemolgaa
open Go.RowKit Go.Shelf
attribute [local go_sem] Oper.semAt_some

/-- a part of a row -/
def seg {α : Type} (ps : List α) (f e : Nat) : List α := (ps.drop f).take (e + 1 - f)
theorem seg_length {α : Type} (ps : List α) (f e : Nat) (h : e < ps.length) : (seg ps f e).length = e + 1 - f := by simp [seg]; omega
theorem c3s_take (ps : List P3) (k : Nat) : c3s (ps.take k) = (c3s ps).take (k * 3) := by
  induction ps generalizing k with
  | nil => simp [c3s]
  | cons p ps ih =>
    cases k with
    | zero => simp [c3s]
    | succ k =>
      have e : ∀ q ps, c3s (q :: ps) = c3 q ++ c3s ps := fun _ _ => rfl
      rw [List.take_succ_cons, e, e, ih, show (k + 1) * 3 = k * 3 + 3 by omega]
      simp [c3]
theorem c3s_drop (ps : List P3) (k : Nat) : c3s (ps.drop k) = (c3s ps).drop (k * 3) := by
  induction ps generalizing k with
  | nil => simp [c3s]
  | cons p ps ih =>
    cases k with
    | zero => simp
    | succ k =>
      have e : ∀ q ps, c3s (q :: ps) = c3 q ++ c3s ps := fun _ _ => rfl
      rw [List.drop_succ_cons, e, ih, show (k + 1) * 3 = k * 3 + 3 by omega]
      simp [c3]
theorem Rd.seg3 {w : World} {B b o n : Nat} {ps : List P3} (h : Rd w B (some ⟨b, o, none⟩) n 3 (c3s ps)) {f e : Nat} (he : e < n) :
    Rd w B (some ⟨b, o + f * 3, none⟩) (e + 1 - f) 3 (c3s (seg ps f e)) := by
  refine ⟨by rw [c3s_length, seg_length _ _ _ (by rw [h.len3]; exact he)], fun hn => ?_⟩
  obtain ⟨b', o', e1, hb, hc⟩ := h.2 (by omega)
  simp only [Option.some.injEq, Addr.mk.injEq, and_true] at e1
  obtain ⟨rfl, rfl⟩ := e1
  refine ⟨b, o + f * 3, rfl, hb, fun j u hu => ?_⟩
  rw [seg, c3s_take, c3s_drop, List.getElem?_take] at hu
  split at hu
  · rw [List.getElem?_drop] at hu
    rw [Nat.add_assoc]
    exact hc _ _ hu
  · cases hu

theorem ownFrom_grown {β : Type} {W0 : World} {row : Option Nat} : OwnFrom W0.heap.size (fun (_ : β) W => W0.grownBy W row) := fun _ A C row' hs hg hr =>
  ⟨hg.os.trans hs.os, hg.tape.trans hs.tape, hg.output.trans hs.output, Nat.le_trans hs.size hg.size, fun k hk hne =>
    (hg.block k (Nat.lt_of_lt_of_le hk hs.size) (fun e => by have := (hr k e.symm).1; omega)).trans (hs.block k hk hne)⟩

theorem KeepT.of_grown {T : Nat → Prop} {W W' : World} {row : Option Nat} (hg : W.grownBy W' row) (hr : ∀ b, T b → some b ≠ row) : KeepT T W W' := fun b hb o ho _ =>
  (hg.block b (Array.getElem?_eq_some_iff.1 ho).1 (hr b hb)).trans ho
theorem grownBy_trans {A B C : World} {row : Option Nat} (h : A.grownBy B row) (k : B.grownBy C row) : A.grownBy C row :=
  ⟨k.os.trans h.os, k.tape.trans h.tape, k.output.trans h.output, Nat.le_trans h.size k.size, fun i hi hne => (k.block i (Nat.lt_of_lt_of_le hi h.size) hne).trans (h.block i hi hne)⟩

/-- one step of the area, wrapped as Go wraps it -/
def arSt (c : List P3) (k : Nat) (z : Int) : Int :=
  match c[k]?, c[(k + 1) % c.length]? with
  | some p, some q => wrap64 (z + wrap64 (wrap64 (p.1 * q.2.1) - wrap64 (q.1 * p.2.1)))
  | _, _ => z
def arTo (c : List P3) : Nat → Int → Int
  | 0, z => z
  | k + 1, z => arSt c k (arTo c k z)
def arC (c : List P3) (z : Int) : Int := arTo c c.length z
def arAll (ps : List P3) (l : List (Nat × Nat × Nat)) : Int := l.foldl (fun z p => arC (seg ps p.2.1 p.2.2) z) 0

set_option maxRecDepth 100000 in
set_option maxHeartbeats 2000000 in
theorem area_ok (w : World) (B : Nat) (A E : Option Addr) (n c m d : Nat) (ps : List P3) (es : List Int) (hA : Rd w B A n 3 (c3s ps)) (hE : Rd w B E m 1 (cIs es)) (hB : B ≤ w.heap.size) (hc : n ≤ c)
    (hn : c ≤ 9223372036854775807) (hm : m ≤ 9223372036854775807) :
    Calls Try.prog 22 #[.agg #[.slice A n c, .slice E m d]] w fun e w' => e = .returned (.int .i64 (arAll ps (pcsF n 0 0 es))) ∧ Below w.heap.size w w' := by
  refine (callsIn_wide (n := 9)).1 ?_
  refine callsIn_of_wp_marks Try.func22 rfl trivial ?_ rfl
  simp only [Try.ntmps22, List.size_toArray, List.length_cons, List.length_nil, Nat.reduceAdd, Nat.reduceSub, Array.replicate_succ, Array.replicate_zero, List.push_toArray, List.append_toArray, List.nil_append, List.cons_append]
  gi_wp2_with fail
  refine ⟨trivial, ?_⟩
  refine (callsIn_wide.2 (pieces3_call _ _ _ _ _ _ _)).mono ?_
  rintro e w' ⟨rfl, rfl⟩
  gi_wp2_with fail
  obtain ⟨b, o, hbo⟩ : ∃ b o, 0 < n → A = some ⟨b, o, none⟩ := by
    by_cases h : 0 < n
    · obtain ⟨b, o, e, _⟩ := hA.2 h
      exact ⟨b, o, fun _ => e⟩
    · exact ⟨0, 0, fun h' => absurd h' h⟩
  obtain ⟨W0, hW0⟩ : ∃ W0, (((w.alloc (.cells #[.slice A n c, .slice E m d] 25)).alloc (.cells #[.int .i64 0] 3)).alloc (.cells #[.slice A n c] 22)).alloc (.cells #[.slice E m d] 23) = W0 := ⟨_, rfl⟩
  have hs0 : W0.heap.size = w.heap.size + 4 := by rw [← hW0]; simp
  have hbox : Boxed W0 (w.heap.size + 1) 3 (.int .i64 0) := by
    rw [← hW0]
    refine Boxed.alloc (Boxed.alloc ?_ _) _
    have := Boxed.new (w.alloc (.cells #[.slice A n c, .slice E m d] 25)) 3 (.int .i64 0)
    rwa [World.size_alloc] at this
  have hb0 : Below w.heap.size w W0 := by rw [← hW0]; exact ((((Below.refl _ _).alloc (Nat.le_refl _) _).alloc (by simp) _).alloc (by simp; omega) _).alloc (by simp; omega) _
  have hcr : W0.cell? ⟨w.heap.size + 1 + 1, 0, none⟩ = some (.slice A n c) := by rw [← hW0]; simp [go_sem]
  have hce : W0.cell? ⟨w.heap.size + 1 + 1 + 1, 0, none⟩ = some (.slice E m d) := by rw [← hW0]; simp [go_sem]
  have hA0 : Rd W0 B A n 3 (c3s ps) := hA.below hb0 hB
  have hE0 : Rd W0 B E m 1 (cIs es) := hE.below hb0 hB
  have hfr : W0.frozen? ⟨w.heap.size + 1, 0, none⟩ = false := hbox.frozen
  rw [hW0]
  clear hW0
  refine wpIn_rangeFunc_ownF rfl (by omega) (gf := 47) (lb := #[.pointer (some ⟨w.heap.size + 1 + 1 + 1, 0, none⟩), .pointer (some ⟨w.heap.size + 1 + 1, 0, none⟩)]) rfl trivial (enters_of Try.func47 (by kernel_rfl) rfl)
    (pieces3_stops 8 (by omega) _ _ b o n c m d B A E es (fun k => k < B ∨ k = w.heap.size + 1 + 1 + 1 ∨ k = w.heap.size + 1 + 1) (fun _ h => .inl h) (.inr (.inl rfl)) (.inr (.inr rfl)) hbo hc hn hm W0 (by omega) hE0 hce hcr)
    (fun h k => h.trans k) (fun W l o o' _ h hc _ => KeepT.put W l o o' h hc) (Below.refl _ _) (fun _ => rfl)
    (fun pre W => Boxed W (w.heap.size + 1) 3 (.int .i64 (arAll ps (pre.map (·.1)))) ∧ W0.grownBy W (some (w.heap.size + 1)))
    (fun _ _ _ => False)
    (OwnFrom.and (Own.from (boxed_own _ _ _) _) ownFrom_grown)
    (fun _ _ _ _ _ h _ _ => h)
    ⟨hbox, World.grownBy.refl _ _⟩
    (fun x => { tmps := #[.agg #[.slice A n c, .slice E m d], .pointer (some ⟨w.heap.size, 0, none⟩), .int .i64 0, .pointer (some ⟨w.heap.size + 1, 0, none⟩), undef, .slice (some ⟨b, o + x.1.2.1 * 3, none⟩) (x.1.2.2 + 1 - x.1.2.1) (x.1.2.2 + 1 - x.1.2.1), undef, undef, undef, .pointer (some ⟨w.heap.size, 0, none⟩), .slice A n c, .pointer (some ⟨w.heap.size, 1, none⟩), .slice E m d, .func (.func 47) #[] #[.pointer (some ⟨w.heap.size + 1 + 1 + 1, 0, none⟩), .pointer (some ⟨w.heap.size + 1 + 1, 0, none⟩)], .int .i64 (x.1.1 : Int), .slice (some ⟨b, o + x.1.2.1 * 3, none⟩) (x.1.2.2 + 1 - x.1.2.1) (x.1.2.2 + 1 - x.1.2.1), undef, undef, undef, undef, undef, undef, undef, undef, undef, undef, undef, undef, undef, undef, undef, undef, undef, undef, undef, undef, undef, undef, undef, undef, undef, undef, undef, undef, undef, undef], defers := [] }) ?assign ?body ?done ?stop
  case assign =>
    intro l x W K hK
    gi_wp2
    exact hK
  case body =>
    rintro l pre ⟨⟨idx, f, e⟩, hfe, hen⟩ W ⟨hbx, hgr⟩ hlen
    dsimp only at hfe hen ⊢
    obtain rfl := hbo (by omega)
    have hAW : Rd W B (some ⟨b, o, none⟩) n 3 (c3s ps) := hA0.grown hgr (by omega) (fun g hg => by cases hg; omega)
    have hC := hAW.seg3 (f := f) hen
    have hL0 : 0 < e + 1 - f := by omega
    have hLn : e + 1 - f ≤ n := by omega
    have hcl : Hid ((seg ps f e).length = e + 1 - f) := seg_length _ _ _ (by rw [hA.len3]; exact hen)
    have hfin : Hid (arAll ps ((pre ++ [(⟨(idx, f, e), hfe, hen⟩ : Pc n)]).map (·.1)) = arC (seg ps f e) (arAll ps (pre.map (·.1)))) := by
      show _ = _
      simp [arAll]
    generalize arAll ps (pre.map (·.1)) = z at *
    generalize hc' : seg ps f e = cc at *
    clear hc'
    generalize e + 1 - f = L at *
    generalize o + f * 3 = oo at *
    gi_wp2
    gi_loopw [18] (fun i wr => ∃ k : Nat, k ≤ L ∧ i = .int .i64 k ∧ Boxed wr (w.heap.size + 1) 3 (.int .i64 (arTo cc k z)) ∧ W.grownBy wr (some (w.heap.size + 1))) (fun i _ => L - (intOf i).toNat)
    case atStart => exact ⟨0, by omega, rfl, hbx, World.grownBy.refl _ _⟩
    case round =>
      obtain ⟨k, hk, rfl, hbk, hgk⟩ := hrel
      by_cases hlt : k < L
      · have hCk := hC.grown hgk (by have := hgr.size; omega) (fun g hg => by cases hg; omega)
        obtain ⟨b1, o1, x1, y1, z1, e1, -, hp1, h11, h12, h13⟩ := hCk.at3 hlt
        simp only [Option.some.injEq, Addr.mk.injEq, and_true] at e1
        obtain ⟨rfl, rfl⟩ := e1
        obtain ⟨j, hj⟩ : ∃ j : Nat, (k + 1) % L = j := ⟨_, rfl⟩
        have hjl : j < L := by rw [← hj]; exact Nat.mod_lt _ (by omega)
        have hjI : ((k : Int) + 1) % (L : Int) = (j : Int) := by rw [← hj]; simp
        have Hj := Lib.hid hj
        clear hj
        obtain ⟨b2, o2, x2, y2, z2, e2, -, hp2, h21, h22, h23⟩ := hCk.at3 (k := j) hjl
        simp only [Option.some.injEq, Addr.mk.injEq, and_true] at e2
        obtain ⟨rfl, rfl⟩ := e2
        have hcb := hbk.cell
        have hbl := World.block_lt_of_cell? wr _ h11
        have hbl2 := World.block_lt_of_cell? wr _ hcb
        dsimp only at hbl hbl2
        have hbl3 : w.heap.size < wr.heap.size := by omega
        have hfb := hbk.frozen
        have hst : Hid (arTo cc (k + 1) z = wrap64 (arTo cc k z + wrap64 (wrap64 (x1 * y2) - wrap64 (x2 * y1)))) := by
          show _ = _
          rw [arTo, arSt, hcl.out, Hj.out, hp1.out, hp2.out]
        gi_wp2
        go_roundw
        case rel =>
          refine ⟨k + 1, by omega, by go_num, ?_, ?_⟩
          · rw [hst.out]
            exact ((hbk.set _).alloc _).alloc _
          · exact only_alloc (only_alloc (only_setCell (p := ⟨w.heap.size + 1, 0, none⟩) hgk (.inl rfl) _) _) _
        case measure => simp [intOf]; omega
      · gi_wp2
        refine ⟨KeepsOthers.of_grownBy hgk (fun j o hj ho => ?_), KeepT.of_grown hgk (fun b hb => ?_), ?_, grownBy_trans hgr hgk⟩
        · cases hj
          have h1 : W.heap[w.heap.size + 1]? = _ := hbx
          rw [h1] at ho
          cases ho
          rfl
        · simp only [ne_eq, Option.some.injEq]
          omega
        · rw [hfin.out, arC, hcl.out, show L = k by omega]
          exact hbk
  case done =>
    rintro D ys W hD hS ⟨hbx, hgr⟩ hK
    have hcb := hbx.cell
    gi_wp2
    refine ⟨by simp, .inl ⟨_, _, rfl, run_takeDeferred hK, ?_⟩⟩
    refine ⟨_, results_tmp rfl _ _ _, ?_, ?_⟩
    · simp [hS]
    · exact (hb0.grown hgr (by omega) (fun g hg => by cases hg; omega)).trans (belowK_b (w := w) (Nat.le_refl _) W D _ _ (by omega) hK rfl rfl)
  case stop =>
    rintro D c pre W _ _ h _
    exact h.elim
end Go.Proofs.Ytfpdbdbgemolgaa
