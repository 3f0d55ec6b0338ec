/- The contract of outline.Lines. -/
import Derived.Stop.RegionWithIn
import Derived.Laws.MakeOwn
import Derived.Test.YtfpdbdbgemolgaaRing
import Derived.Test.YtfpdbdbgemolgaaPiecesS
import Derived.Test.YtfpdbdbgemolgaaReversed
namespace Go.Proofs.Ytfpdbdbgemolgaa
open Go.RowKit Go.Shelf
attribute [local go_sem] Oper.semAt_some
attribute [-go_sem] Builtin.append_

def spz (pts : List P2) (on : List Bool) : List P3 := List.zipWith (fun p b => (p.1, p.2, b)) pts on
/-- the spots, so many of them laid -/
def spTo (pts : List P2) (on : List Bool) (k n : Nat) : List P3 := (spz pts on).take k ++ List.replicate (n - k) (0, 0, false)
theorem spTo_zero (pts : List P2) (on : List Bool) (n : Nat) : spTo pts on 0 n = List.replicate n (0, 0, false) := by simp [spTo]
theorem spz_length (pts : List P2) (on : List Bool) (n : Nat) (h1 : pts.length = n) (h2 : on.length = n) : (spz pts on).length = n := by simp [spz, h1, h2]
theorem spTo_length (pts : List P2) (on : List Bool) (k n : Nat) (h1 : pts.length = n) (h2 : on.length = n) (hk : k ≤ n) : (spTo pts on k n).length = n := by
  simp [spTo, spz_length pts on n h1 h2]; omega
theorem spTo_all (pts : List P2) (on : List Bool) (k n : Nat) (h1 : pts.length = n) (h2 : on.length = n) (hk : n ≤ k) : spTo pts on k n = spz pts on := by
  have : n - k = 0 := by omega
  simp [spTo, this, List.take_of_length_le (show (spz pts on).length ≤ k by rw [spz_length pts on n h1 h2]; exact hk)]
theorem spTo_succ (pts : List P2) (on : List Bool) (k n : Nat) (h1 : pts.length = n) (h2 : on.length = n) (hk : k < n) (x y : Int) (b : Bool) (hx : pts[k]? = some (x, y)) (hb : on[k]? = some b) :
    (spTo pts on k n).set k (x, y, b) = spTo pts on (k + 1) n := by
  have hl := spz_length pts on n h1 h2
  have hg : (spz pts on)[k]? = some (x, y, b) := by simp [spz, List.getElem?_zipWith, hx, hb]
  obtain ⟨h3, h4⟩ := List.getElem?_eq_some_iff.1 hg
  unfold spTo
  have hlt : ((spz pts on).take k).length = k := by simp; omega
  rw [List.set_append_right _ _ (by omega), hlt, Nat.sub_self, show n - k = (n - (k + 1)) + 1 by omega, List.replicate_succ, List.set_cons_zero, List.take_succ_eq_append_getElem h3, h4]
  simp
theorem made3 (n : Nat) : (madeCells #[Value.int .i64 0, .int .i64 0, .bool false] (n * 3)).toList = c3s (List.replicate n (0, 0, false)) := by
  apply List.ext_getElem?
  intro j
  by_cases hj : j < n * 3
  · have h1 : (madeCells #[Value.int .i64 0, .int .i64 0, .bool false] (n * 3)).toList[j]? = some ((#[Value.int .i64 0, .int .i64 0, .bool false] : Array Value)[j % 3]!) := by
      simp [madeCells, hj]
    rw [h1]
    have hq : (List.replicate n ((0, 0, false) : P3))[j / 3]? = some (0, 0, false) := by rw [List.getElem?_replicate, if_pos (by omega)]
    obtain ⟨a1, a2, a3⟩ := c3s_get _ _ _ hq
    rcases (by omega : j % 3 = 0 ∨ j % 3 = 1 ∨ j % 3 = 2) with h | h | h
    · rw [h, show j = j / 3 * 3 by omega, a1]; rfl
    · rw [h, show j = j / 3 * 3 + 1 by omega, a2]; rfl
    · rw [h, show j = j / 3 * 3 + 2 by omega, a3]; rfl
  · rw [List.getElem?_eq_none (by simp [madeCells]; omega), List.getElem?_eq_none (by rw [c3s_length]; simp; omega)]
theorem run_make_sp (n : Nat) (hn : n ≤ 100000) (w : World) : ∃ cs, cs.toList = c3s (List.replicate n (0, 0, false)) ∧ (Instr.makeSlice 65 (.int .i64 (n : Int)) (.int .i64 (n : Int))).run Try.prog w = .ok (.slice (some ⟨w.heap.size, 0, none⟩) n n) (w.alloc (.cells cs 67)) := by
  obtain ⟨i0, hi0, hz0, hz1, hz2⟩ := info_parts info67
  have hr := run_make (P := Try.prog) w 65 67 i0 _ Try.underlying65 hi0 hz0 .i64 .i64 n n (by omega) (by omega) (by rw [hz2]; omega) (by omega)
  simp only [Int.toNat_natCast] at hr
  rw [hz1] at hr
  exact ⟨_, made3 n, hr⟩

/-- rows of points: a slice of slices -/
def RowsIn2 (w : World) (hs : List Value) (rows : List (List P2)) : Prop :=
  hs.length = rows.length ∧ ∀ (i : Nat) (r : List P2), rows[i]? = some r → ∃ A k c, hs[i]? = some (Value.slice A k c) ∧ RdT w 47 A k 2 (c2s r)
def linesL (sp : List P3) (l : List (Nat × Nat × Nat)) : List (List P2) := l.map fun p => rowL (ringL (seg sp p.2.1 p.2.2))
theorem info32 : (Try.prog.info? 32).map (fun i => (i.zero, i.size, i.bytes)) = some (some (Value.slice none 0 0), 1, 24) := by kernel_rfl

theorem RdT.other {w w' : World} {t : TypeId} {A : Option Addr} {n size : Nat} {cs : List Value} {row : Option Nat} (h : RdT w t A n size cs) (hg : w.grownBy w' row) (hr : ∀ r, row = some r → ∃ o : Obj, w.heap[r]? = some o ∧ o.isCells = false) : RdT w' t A n size cs :=
  ⟨h.1, fun hn => by
    obtain ⟨b, o, cur, e, hb', hc⟩ := h.2 hn
    refine ⟨b, o, cur, e, (hg.block b hb'.lt (fun e => ?_)).trans hb', hc⟩
    obtain ⟨o', ho, hc⟩ := hr b e.symm
    have hb2 : w.heap[b]? = _ := hb'
    rw [hb2] at ho
    cases ho
    cases hc⟩
theorem ownsRow_base {w : World} {b b' : Nat} {e : TypeId} {size : Nat} {v : Value} {n : Nat} {xs : List Value} (h : w.ownsRow b e size v n xs) (hb : b' ≤ b) : w.ownsRow b' e size v n xs :=
  ⟨h.1, h.2.imp id (fun ⟨g, cap, cur, h1, h2, h3⟩ => ⟨g, cap, cur, h1, by omega, h3⟩)⟩
/-- the rows so far -/
def LInv (rb base : Nat) (sp : List P3) (l : List (Nat × Nat × Nat)) (W : World) : Prop :=
  ∃ v hs, Boxed W rb 35 v ∧ W.ownsRow base 32 1 v hs.length hs ∧ RowsIn2 W hs (linesL sp l)
theorem linv_own (rb base n : Nat) (sp : List P3) : Own (fun (pre : List (Pc n)) W => LInv rb base sp (pre.map (·.1)) W) := fun s X Y row hs hg hrow => by
  obtain ⟨v, hs', hb, ho, hr⟩ := hs
  refine ⟨v, hs', boxed_own (β := Unit) rb 35 (fun _ => v) () X Y row hb hg hrow, row_own (β := Unit) base 32 1 hs'.length v (fun _ => hs') () X Y row ho hg hrow, hr.1, fun i r hi => ?_⟩
  obtain ⟨A, k, c, h1, h2⟩ := hr.2 i r hi
  exact ⟨A, k, c, h1, h2.other hg hrow⟩
theorem ringL_len (ct : List P3) : (ringL ct).length = (ringTo ct ct.length).length := by
  unfold ringL
  simp only [List.length_append, List.length_drop, List.length_take]
  omega

theorem linesApp (W w1 w2 : World) (rb base N c0 : Nat) (A0 A2 : Option Addr) (k2 cc2 : Nat) (hs : List Value) (rows rows' : List (List P2)) (r : List P2) (T : Nat → Prop)
    (hrow : W.ownsRow base 32 1 (.slice A0 N c0) N hs) (hb1 : Below W.heap.size W w1) (hb2 : Below w1.heap.size w1 w2) (hbx : Boxed W rb 35 (.slice A0 N c0)) (hbase : base ≤ W.heap.size) (hrb : rb < base) (hT : ∀ b, T b → b < base ∧ b ≠ rb)
    (hr2 : RdT w2 47 A2 k2 2 (c2s r)) (hrows : RowsIn2 W hs rows) (hN : N ≤ 100000) (hrr : rows' = rows ++ [r]) :
    ∃ A3 c3 w3, (Builtin.append_ #[35, 35] 35 #[.slice A0 N c0, .slice (some ⟨w2.heap.size, 0, none⟩) 1 1]).run Try.prog (w2.alloc (.cells #[.slice A2 k2 cc2] 32)) = .ok (.slice A3 (N + 1) c3) w3 ∧
      w3.cell? ⟨rb, 0, none⟩ = some (.slice A0 N c0) ∧ w3.frozen? ⟨rb, 0, none⟩ = false ∧
      KeepsOthers W (w3.setCell ⟨rb, 0, none⟩ (.slice A3 (N + 1) c3)) ∧ KeepT T W (w3.setCell ⟨rb, 0, none⟩ (.slice A3 (N + 1) c3)) ∧
      (∃ v hs', Boxed (w3.setCell ⟨rb, 0, none⟩ (.slice A3 (N + 1) c3)) rb 35 v ∧ (w3.setCell ⟨rb, 0, none⟩ (.slice A3 (N + 1) c3)).ownsRow base 32 1 v hs'.length hs' ∧ RowsIn2 (w3.setCell ⟨rb, 0, none⟩ (.slice A3 (N + 1) c3)) hs' rows') ∧
      Below rb W (w3.setCell ⟨rb, 0, none⟩ (.slice A3 (N + 1) c3)) := by
  obtain ⟨i0, hi0, hz0, hz1, hz2⟩ := info_parts info32
  have hl : hs.length = N := by have := hrow.1; omega
  have hb3 : Below W.heap.size W (w2.alloc (.cells #[.slice A2 k2 cc2] 32)) := (hb1.trans (hb2.mono hb1.size)).alloc (Nat.le_trans hb1.size hb2.size) _
  have hrow3 := own_below hrow hb3
  have hx3 : Boxed (w2.alloc (.cells #[.slice A2 k2 cc2] 32)) rb 35 (.slice A0 N c0) := (hb3.block _ hbx.lt).trans hbx
  obtain ⟨v3, w3, hrun, hown, hg, hat⟩ := run_append_any (P := Try.prog) (w2.alloc (.cells #[.slice A2 k2 cc2] 32)) base 35 35 32 i0 _ 1 24 Try.underlying35 hi0 hz0 hz1 hz2 rfl (by decide) (.slice A0 N c0) N hs hrow3 (w2.heap.size + 1) (some ⟨w2.heap.size, 0, none⟩) 1 1 [.slice A2 k2 cc2] (Rd.new w2 #[.slice A2 k2 cc2] 32 1 1 rfl) (by simp [Value.oneCell']) (by simp only [maxLen]; omega) (by omega) (Nat.le_trans hbase hb3.size)
  obtain ⟨A3, c3, rfl, -⟩ := Rd.of_own hown
  have hne : some rb ≠ (Value.slice A0 N c0).ownBlock := fun e => by have := (hrow3.lt _ e.symm).1; omega
  have hx4 : Boxed w3 rb 35 (.slice A0 N c0) := hx3.kept hg hne
  have hgW : W.grownBy w3 (Value.slice A0 N c0).ownBlock := ⟨hg.os.trans hb3.os, hg.tape.trans hb3.tape, hg.output.trans hb3.output, Nat.le_trans hb3.size hg.size, fun i hi hn => (hg.block i (Nat.lt_of_lt_of_le hi hb3.size) hn).trans (hb3.block i hi)⟩
  have hcells : ∀ g, (Value.slice A0 N c0).ownBlock = some g → ∃ cur, Bk W g 32 cur := own_bk hrow
  refine ⟨A3, c3, w3, hrun, hx4.cell, hx4.frozen, ?_, ?_, ?_, ?_⟩
  · refine KeepsOthers.trans (KeepsOthers.of_grownBy hgW (fun j o hj ho => ?_)) (KeepsOthers.setCell _ _ _)
    obtain ⟨cur, hk⟩ := hcells j hj
    have hk2 : W.heap[j]? = _ := hk
    rw [hk2] at ho
    cases ho
    rfl
  · refine KeepT.trans (KeepT.of_grown hgW (fun b hb e => ?_)) (fun b hb o ho _ => ?_)
    · have h1 := (hrow.lt b e.symm).1
      have h2 := (hT b hb).1
      omega
    · exact (Below.heap_setCell w3 ⟨rb, 0, none⟩ _ b (hT b hb).2).trans ho
  · refine ⟨.slice A3 (N + 1) c3, hs ++ [.slice A2 k2 cc2], Boxed.set _ hx4, ?_, ?_, ?_⟩
    · have h := ownsRow_setCell_below (a := ⟨rb, 0, none⟩) hown hrb (.slice A3 (N + 1) c3)
      simpa [hl] using h
    · rw [hrr]
      simp [hrows.1]
    · have hkeep : ∀ (A : Option Addr) (k c : Nat) (r' : List P2), RdT w2 47 A k 2 (c2s r') → RdT (w3.setCell ⟨rb, 0, none⟩ (.slice A3 (N + 1) c3)) 47 A k 2 (c2s r') := by
        intro A k c r' h
        have h1 : RdT (w2.alloc (.cells #[.slice A2 k2 cc2] 32)) 47 A k 2 (c2s r') := h.below ((Below.refl _ _).alloc (Nat.le_refl _) _)
        have h2 : RdT w3 47 A k 2 (c2s r') := h1.grown hg (fun g hg' => by
          obtain ⟨cur, hk⟩ := own_bk hrow3 g hg'
          exact ⟨cur, 32, hk, by decide⟩)
        have h3 : w3.grownBy (w3.setCell ⟨rb, 0, none⟩ (.slice A3 (N + 1) c3)) (some rb) := only_setCell (p := ⟨rb, 0, none⟩) (World.grownBy.refl _ _) (.inl rfl) _
        exact h2.grown h3 (fun g hg' => by
          cases hg'
          exact ⟨#[.slice A0 N c0], 35, hx4, by decide⟩)
      intro i r' hi
      rw [hrr] at hi
      by_cases hlt : i < rows.length
      · rw [List.getElem?_append_left hlt] at hi
        obtain ⟨A, k, c, h1, h2⟩ := hrows.2 i r' hi
        refine ⟨A, k, c, ?_, hkeep A k c r' ((h2.below hb1).below hb2)⟩
        rw [List.getElem?_append_left (by rw [hrows.1]; exact hlt)]
        exact h1
      · have hi2 : i = rows.length := by
          have := (List.getElem?_eq_some_iff.1 hi).1
          simp at this
          omega
        subst hi2
        simp at hi
        subst hi
        exact ⟨A2, k2, cc2, by rw [← hrows.1]; simp, hkeep A2 k2 cc2 _ hr2⟩
  · have h1 : Below rb W w3 := ⟨hgW.os, hgW.tape, hgW.output, hgW.size, fun q hq => hgW.block q (Nat.lt_of_lt_of_le hq (by omega)) (fun e => by have := (hrow.lt _ e.symm).1; omega)⟩
    exact h1.setCell (p := ⟨rb, 0, none⟩) (Nat.le_refl _) _

set_option maxRecDepth 100000 in
set_option maxHeartbeats 4000000 in
theorem lines_ok (w : World) (B : Nat) (A O E : Option Addr) (n c co m d : Nat) (pts : List P2) (on : List Bool) (es : List Int) (hA : Rd w B A n 2 (c2s pts)) (hO : Rd w B O n 1 (cBs on)) (hE : Rd w B E m 1 (cIs es)) (hB : B ≤ w.heap.size)
    (hn : n ≤ 40000) (hm : m ≤ 100000) :
    Calls Try.prog 20 #[.slice A n c, .slice O n co, .slice E m d] w fun e w' => ∃ v hs, e = .returned v ∧ w'.ownsRow w.heap.size 32 1 v hs.length hs ∧ RowsIn2 w' hs (linesL (spz pts on) (pcsF n 0 0 es)) ∧ Below w.heap.size w w' := by
  obtain ⟨i0, hi0, hz0, hz1, hz2⟩ := info_parts info32
  obtain ⟨cs, hcs, hmk⟩ := run_make_sp n (by omega) w
  have Hcs := Lib.hid hcs
  have hl1 := Lib.hid hA.len2
  have hl2 := Lib.hid hO.lenB
  clear hcs
  refine (callsIn_wide (n := 9)).1 ?_
  refine callsIn_of_wp_marks Try.func20 rfl trivial ?_ rfl
  simp only [Try.ntmps20, List.size_toArray, List.length_cons, List.length_nil, Nat.reduceAdd, Nat.reduceSub, Array.replicate_succ, Array.replicate_zero, List.push_toArray, List.append_toArray, List.nil_append, List.cons_append]
  gi_wp2_with fail
  have hsp0 : (w.alloc (.cells cs 67)).ownsRow w.heap.size 67 3 (.slice (some ⟨w.heap.size, 0, none⟩) n n) n (c3s (spTo pts on 0 n)) := by
    have h := World.ownsRow_lit (e := 67) (size := 3) w cs n (Nat.le_refl _) (by simp only [maxLen]; omega) (by have := congrArg List.length Hcs.out; rw [c3s_length] at this; simpa using this)
    rw [Hcs.out, ← spTo_zero pts on n] at h
    exact h
  gi_loopw [23] (fun i wr => ∃ k : Nat, k ≤ n ∧ i = .int .i64 k ∧ wr.ownsRow w.heap.size 67 3 (.slice (some ⟨w.heap.size, 0, none⟩) n n) n (c3s (spTo pts on k n)) ∧ Below w.heap.size w wr) (fun i _ => n - (intOf i).toNat)
  case atStart => exact ⟨0, by omega, rfl, hsp0, (Below.refl _ _).alloc (Nat.le_refl _) _⟩
  case round =>
    obtain ⟨k, hk, rfl, how, hbl⟩ := hrel
    have hszr := hbl.size
    by_cases hlt : k < n
    · obtain ⟨b, o, x, y, rfl, hbB, hpx, q1, q2⟩ := (hA.below hbl hB).at2 hlt
      obtain ⟨bo, oo, zb, rfl, hboB, hpb, q3⟩ := (hO.below hbl hB).atB hlt
      obtain ⟨A2, c2', hv2, hrd⟩ := Rd.of_own how
      simp only [Value.slice.injEq, true_and] at hv2
      obtain ⟨rfl, rfl⟩ := hv2
      obtain ⟨b1, o1, x1, y1, z1, e1, hb1, hp1, h11, h12, h13⟩ := hrd.at3 hlt
      simp only [Option.some.injEq, Addr.mk.injEq, and_true] at e1
      obtain ⟨rfl, rfl⟩ := e1
      simp only [Nat.zero_add] at h11 h12 h13
      have hfz := how.frozenAt
      have zb1 : b < wr.heap.size := by omega
      have zb2 : bo < wr.heap.size := by omega
      have zb3 : w.heap.size < wr.heap.size := hb1
      have zb4 : ¬ (wr.heap.size = w.heap.size) := by omega
      have zb5 : ¬ (w.heap.size = wr.heap.size) := by omega
      have zi1 : (k : Int) < (n : Int) := by omega
      gi_wp2_with fail
      gi_region
      gi_wp2_with fail
      go_roundw
      case rel =>
        have hsl := Lib.hid (spTo_length pts on k n hl1.out hl2.out hk)
        have s1 := own_set3 how (k := k) (by rw [hsl.out]; exact hlt) x y zb
        rw [spTo_succ pts on k n hl1.out hl2.out hlt x y zb hpx.out hpb.out] at s1
        exact ⟨k + 1, by omega, by go_num, (s1.alloc _).drew, ((((hbl.setCell (by simp) _).setCell (by simp) _).setCell (by simp) _).alloc (by simp; omega) _).drew⟩
      case measure => simp [intOf]; omega
    · gi_wp2_with fail
      refine ⟨trivial, ?_⟩
      refine (callsIn_wide.2 (piecesS_call _ _ _ _ _ _ _)).mono ?_
      rintro e w' ⟨rfl, rfl⟩
      gi_wp2_with fail
      obtain ⟨W0, hW0⟩ : ∃ W0, ((wr.alloc (.cells #[.slice none 0 0] 35)).alloc (.cells #[.slice (some ⟨w.heap.size, 0, none⟩) n n] 65)).alloc (.cells #[.slice E m d] 23) = W0 := ⟨_, rfl⟩
      have hs0 : W0.heap.size = wr.heap.size + 3 := by rw [← hW0]; simp
      have hb0 : Below wr.heap.size wr W0 := by rw [← hW0]; exact (((Below.refl _ _).alloc (Nat.le_refl _) _).alloc (by simp) _).alloc (by simp; omega) _
      have hcr : W0.cell? ⟨wr.heap.size + 1, 0, none⟩ = some (.slice (some ⟨w.heap.size, 0, none⟩) n n) := by rw [← hW0]; simp [go_sem]
      have hce : W0.cell? ⟨wr.heap.size + 1 + 1, 0, none⟩ = some (.slice E m d) := by rw [← hW0]; simp [go_sem]
      have hbx0 : Boxed W0 wr.heap.size 35 (.slice none 0 0) := by
        rw [← hW0]
        exact ((Boxed.new wr 35 (.slice none 0 0)).alloc _).alloc _
      have hbw0 : Below w.heap.size w W0 := hbl.trans (hb0.mono (by omega))
      have hE0 : Rd W0 B E m 1 (cIs es) := hE.below hbw0 hB
      have hsp : wr.ownsRow w.heap.size 67 3 (.slice (some ⟨w.heap.size, 0, none⟩) n n) n (c3s (spz pts on)) := by
        rw [spTo_all pts on k n hl1.out hl2.out (by omega)] at how
        exact how
      have hspl := Lib.hid (spz_length pts on n hl1.out hl2.out)
      have hswr : w.heap.size < wr.heap.size := by
        rcases hsp.2 with ⟨h, _⟩ | ⟨g', cap', cur, h, _, hh, _⟩
        · cases h
        · simp only [Value.slice.injEq, Option.some.injEq, Addr.mk.injEq, and_true, true_and] at h
          obtain ⟨rfl, rfl⟩ := h
          exact (Array.getElem?_eq_some_iff.1 hh).1
      have hSr : Rd wr wr.heap.size (some ⟨w.heap.size, 0, none⟩) n 3 (c3s (spz pts on)) := by
        obtain ⟨A2, c2', hv2, hrd⟩ := Rd.of_own hsp
        simp only [Value.slice.injEq, true_and] at hv2
        obtain ⟨rfl, rfl⟩ := hv2
        exact hrd
      rw [hW0]
      clear hW0 how hsp0
      generalize hspe : spz pts on = sp at *
      have Hspe := Lib.hid hspe
      clear hspe
      refine wpIn_rangeFunc_ownF rfl (by omega) (gf := 48) (lb := #[.pointer (some ⟨wr.heap.size + 1 + 1, 0, none⟩), .pointer (some ⟨wr.heap.size + 1, 0, none⟩)]) rfl trivial (enters_of Try.func48 (by kernel_rfl) rfl)
        (piecesS_stops 8 (by omega) _ _ w.heap.size 0 n n m d B (some ⟨w.heap.size, 0, none⟩) E es (fun q => q < B ∨ q = wr.heap.size + 1 + 1 ∨ q = wr.heap.size + 1) (fun _ h => .inl h) (.inr (.inl rfl)) (.inr (.inr rfl)) (fun _ => rfl) (Nat.le_refl _) (by omega) (by omega) W0 (by omega) hE0 hce hcr)
        (fun h k => h.trans k) (fun W l o o' _ h hc _ => KeepT.put W l o o' h hc) (Below.refl _ _) (fun _ => rfl)
        (fun pre W => LInv wr.heap.size (wr.heap.size + 1 + 1 + 1) sp (pre.map (·.1)) W ∧ Below wr.heap.size wr W ∧ W0.heap.size ≤ W.heap.size)
        (fun _ _ _ => False)
        (OwnFrom.and (Own.from (linv_own _ _ n sp) _) (OwnFrom.and (ownFrom_below (Nat.le_refl _) (by omega)) (fun _ _ _ _ h hg _ => Nat.le_trans h hg.size)))
        (fun _ _ _ _ _ h _ _ => h)
        ⟨⟨.slice none 0 0, [], hbx0, World.ownsRow_nil _ _ _ _, rfl, fun i r h => by simp [linesL] at h⟩, hb0, Nat.le_refl _⟩
        (fun x => { tmps := #[.slice A n c, .slice O n co, .slice E m d, undef, undef, undef, .slice none 0 0, .slice (some ⟨w.heap.size, 0, none⟩) n n, u8, u9, .pointer (some ⟨wr.heap.size, 0, none⟩), undef, .slice (some ⟨w.heap.size, x.1.2.1 * 3, none⟩) (x.1.2.2 + 1 - x.1.2.1) (x.1.2.2 + 1 - x.1.2.1), .slice O n co, .int .i64 n, .slice A n c, .int .i64 n, .bool false, .slice A n c, .int .i64 n, .slice (some ⟨w.heap.size, 0, none⟩) n n, .slice A n c, .int .i64 n, .int .i64 k, .bool false, u25, u26, u27, u28, u29, u30, u31, u32, u33, u34, u35, u36, u37, .slice (some ⟨w.heap.size, 0, none⟩) n n, .slice E m d, .func (.func 48) #[] #[.pointer (some ⟨wr.heap.size + 1 + 1, 0, none⟩), .pointer (some ⟨wr.heap.size + 1, 0, none⟩)], .int .i64 (x.1.1 : Int), .slice (some ⟨w.heap.size, x.1.2.1 * 3, none⟩) (x.1.2.2 + 1 - x.1.2.1) (x.1.2.2 + 1 - x.1.2.1), undef, undef, undef, undef, undef, undef, undef], defers := [] }) ?assign ?body ?done ?stop
      case assign =>
        intro l x W K hK
        gi_wp2
        exact hK
      case body =>
        rintro l pre ⟨⟨idx, f, e⟩, hfe, hen⟩ W ⟨⟨v, hs, hbx, hrow, hrows⟩, hbW, hWs⟩ hpl
        dsimp only at hfe hen ⊢
        rw [hs0] at hWs
        have hseg := (hSr.below hbW (Nat.le_refl _)).seg3 (f := f) hen
        simp only [Nat.zero_add] at hseg
        have hcl := Lib.hid (seg_length sp f e (by rw [hspl.out]; exact hen))
        have hrl := Lib.hid (ringL_len (seg sp f e))
        have hr1 := ringTo_len (seg sp f e) (seg sp f e).length
        have hr2 := ringTo_ge (seg sp f e) (seg sp f e).length (Nat.le_refl _)
        rw [← hrl.out, hcl.out] at hr1 hr2
        have hfin : Hid (linesL sp ((pre ++ [(⟨(idx, f, e), hfe, hen⟩ : Pc n)]).map (·.1)) = linesL sp (pre.map (·.1)) ++ [rowL (ringL (seg sp f e))]) := by
          show _ = _
          simp [linesL]
        have hll : hs.length ≤ m := by have h1 := hrows.1; simp only [linesL, List.length_map] at h1; omega
        generalize linesL sp (pre.map (·.1)) = rows at *
        generalize seg sp f e = ct at *
        obtain ⟨A0, c0, rfl, -⟩ := Rd.of_own hrow
        have hL0 : 0 < e + 1 - f := by omega
        have hLn : e + 1 - f ≤ n := by omega
        generalize e + 1 - f = L at *
        have hszW := hbW.size
        have hbxc := hbx.cell
        have hbxl := hbx.lt
        have hbase : wr.heap.size + 1 + 1 + 1 ≤ W.heap.size := hWs
        gi_wp2_with fail
        gi_region_with (first
          | (refine ⟨trivial, ?_⟩; gi_at_call 43; refine (CallsIn.inRound l (callsIn_wide.2 (ring_ok _ wr.heap.size _ L _ ct (by exact hseg.drew) (by simp; omega) hL0 (by omega)))).mono ?_; rintro e1 w1 ⟨A1, cc1, rfl, hr1', hb1⟩; have hx1 : Boxed w1 wr.heap.size 35 (.slice A0 hs.length c0) := (hb1.block _ (by simpa using hbxl)).trans hbx; have hxc1 := hx1.cell; have hxl1 := hx1.lt)
          | (refine ⟨trivial, ?_⟩; gi_at_call 42; refine (CallsIn.inRound l (callsIn_wide.2 (row_ok _ w1.heap.size _ _ _ (ringL ct) hr1'.rd (Nat.le_refl _) (by omega) (by omega)))).mono ?_; rintro e2 w2 ⟨A2, k2, cc2, rfl, hr2', hb2⟩; have hx2 : Boxed w2 wr.heap.size 35 (.slice A0 hs.length c0) := (hb2.block _ hxl1).trans hx1; have hxc2 := hx2.cell; have hxl2 := hx2.lt; obtain ⟨A3, c3', w3, hrun3, hxc3, hxf3, hpost⟩ := linesApp W w1 w2 wr.heap.size (wr.heap.size + 1 + 1 + 1) hs.length c0 A0 A2 k2 cc2 hs rows _ (rowL (ringL ct)) (fun q => q < B ∨ q = wr.heap.size + 1 + 1 ∨ q = wr.heap.size + 1) hrow ⟨hb1.os, hb1.tape, hb1.output, hb1.size, hb1.block⟩ hb2 hbx hbase (by omega) (by intro b hb; omega) hr2' hrows (by omega) hfin.out; have Hpost := Lib.hid hpost; clear hpost))
        all_goals
          gi_wp2_with fail
          exact ⟨Hpost.out.1, Hpost.out.2.1, Hpost.out.2.2.1, hbW.trans Hpost.out.2.2.2, by have := Hpost.out.1.size; omega⟩
      case done =>
        rintro D ys W hD hS ⟨⟨v, hs, hbx, hrow, hrows⟩, hbW, hWs⟩ hK
        have hcb := hbx.cell
        have HS := Lib.hid hS
        clear hS
        gi_wp2
        refine ⟨by simp, .inl ⟨_, _, rfl, run_takeDeferred hK, ?_⟩⟩
        refine ⟨_, results_tmp rfl _ _ _, v, hs, ?_, ownsRow_base (ownsRow_putObj hrow _ hK rfl) (by omega), ?_, ?_⟩
        · simp
        · rw [Hspe.out, ← HS.out]
          refine ⟨hrows.1, fun i r hi => ?_⟩
          obtain ⟨A', k', c', h1, h2⟩ := hrows.2 i r hi
          exact ⟨A', k', c', h1, h2.other (grownBy_putObj' W D _) (fun q hq => by cases hq; exact ⟨_, hK, rfl⟩)⟩
        · exact (hbl.trans (hbW.mono (by omega))).trans (belowK_b (w := w) (Nat.le_refl _) W D _ _ (by omega) hK rfl rfl)
      case stop =>
        rintro D c pre W _ _ h _
        exact h.elim
end Go.Proofs.Ytfpdbdbgemolgaa
