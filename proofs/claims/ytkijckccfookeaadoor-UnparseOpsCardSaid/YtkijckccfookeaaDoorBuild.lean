/- strings.Builder as a field of unparse's printer: the contracts of copyCheck, WriteByte, WriteString, String. -/
import Derived.Test.YtkijckccfookeaaDoorProg
import Derived.Test.YtkijckccfookeaaDoorFKeep
import Derived.Lib.Builder
import Derived.Lib.AppendStr
import Derived.Lib.UnsafeStr
import Derived.Lib.MakeNoZero
import Derived.WalkKit
import Derived.RegionTactic
import Derived.Laws.Externs
namespace Go.Proofs.YtkijckccfookeaaDoor
open Go.RowKit

/-- the printer's block: the font's nine cells, the builder's address, its row -/
def PrC (w : World) (g : Nat) (fc : Nat → Value) (ad v : Value) : Prop := Bk w g 96 #[fc 0, fc 1, fc 2, fc 3, fc 4, fc 5, fc 6, fc 7, fc 8, ad, v]
/-- a printer that has printed txt -/
def Pr (w : World) (Bd g : Nat) (fc : Nat → Value) (txt : B) : Prop :=
  ∃ ad v, Bd ≤ g ∧ PrC w g fc ad v ∧ (ad = .pointer none ∨ ad = .pointer (some ⟨g, 9, none⟩)) ∧ w.ownsRow Bd 5 1 v txt.length (Lib.byteCells txt)
/-- .. that has been used -/
def PrU (w : World) (Bd g : Nat) (fc : Nat → Value) (txt : B) : Prop :=
  ∃ v, Bd ≤ g ∧ PrC w g fc (.pointer (some ⟨g, 9, none⟩)) v ∧ w.ownsRow Bd 5 1 v txt.length (Lib.byteCells txt)
theorem PrU.pr {w : World} {Bd g : Nat} {fc : Nat → Value} {txt : B} (h : PrU w Bd g fc txt) : Pr w Bd g fc txt := by
  obtain ⟨v, h1, h2, h3⟩ := h
  exact ⟨_, v, h1, h2, .inr rfl, h3⟩
theorem Pr.lt {w : World} {Bd g : Nat} {fc : Nat → Value} {txt : B} (h : Pr w Bd g fc txt) : Bd ≤ g ∧ g < w.heap.size := by
  obtain ⟨ad, v, h1, h2, -⟩ := h
  exact ⟨h1, Bk.lt h2⟩
theorem bk_ne {w : World} {g g' : Nat} {t t' : TypeId} {cs cs' : Array Value} (h : Bk w g t cs) (h' : Bk w g' t' cs') (hne : t ≠ t') : g ≠ g' := by
  rintro rfl
  have a1 : w.heap[g]? = _ := h
  have a2 : w.heap[g]? = _ := h'
  rw [a1] at a2
  injection a2 with a3
  injection a3 with _ a4
  exact hne a4
theorem own_far {w : World} {base : Nat} {e t : TypeId} {s : Nat} {v : Value} {n : Nat} {xs : List Value} (h : w.ownsRow base e s v n xs) {g : Nat} {cs : Array Value} (hb : Bk w g t cs) (hne : e ≠ t) : v.ownBlock ≠ some g := by
  intro e'
  obtain ⟨cur, hk⟩ := own_bk h g e'
  exact bk_ne hk hb hne rfl
theorem own_setBox {w : World} {base : Nat} {e t : TypeId} {s : Nat} {v : Value} {n : Nat} {xs : List Value} (h : w.ownsRow base e s v n xs) {g : Nat} {cs : Array Value} (hb : Bk w g t cs) (hne : e ≠ t) (i : Nat) (u : Value) : (w.setCell ⟨g, i, none⟩ u).ownsRow base e s v n xs :=
  h.kept (row := some g) (only_setCell (p := ⟨g, i, none⟩) (World.grownBy.refl _ _) (.inl rfl) _) (.inr (own_far h hb hne))
/-- a store into the printer -/
theorem KP.store {w : World} {g : Nat} {cs : Array Value} (h : Bk w g 96 cs) (i : Nat) (u : Value) : KP w (w.setCell ⟨g, i, none⟩ u) :=
  ⟨fun b o hb hn => by
    refine (Below.heap_setCell w ⟨g, i, none⟩ u b ?_).trans hb
    rintro rfl
    have h1 : w.heap[b]? = _ := h
    rw [h1] at hb
    injection hb with hb
    subst hb
    exact hn.2 rfl, by simp⟩
/-- the row of bytes has grown -/
theorem KP.grown {w w' : World} {base n : Nat} {v : Value} {xs : List Value} (ho : w.ownsRow base 5 1 v n xs) (hg : w.grownBy w' v.ownBlock) : KP w w' :=
  ⟨fun b o hb hn => by
    refine (hg.block b (Array.getElem?_eq_some_iff.1 hb).1 ?_).trans hb
    intro e
    obtain ⟨cur, hk⟩ := own_bk ho b e.symm
    have h1 : w.heap[b]? = _ := hk
    rw [h1] at hb
    injection hb with hb
    subst hb
    exact hn.1 rfl, hg.size⟩
theorem infoByte : (Tryd.prog.info? 5).map (fun i => (i.zero, i.size, i.bytes)) = some (some (.int .u8 0), 1, 1) := by kernel_rfl
theorem sizeBuilder : (Tryd.prog.info? 94).map (fun i => i.size) = some 2 := by kernel_rfl
theorem liesBuilder : liesAt Tryd.prog Tryd.prog.depth 96 (11 / Tryd.prog.cellsOf 96) 9 94 1 = true := by kernel_rfl
theorem PrC.shape {w : World} {g : Nat} {fc : Nat → Value} {ad v : Value} (h : PrC w g fc ad v) : w.shape? g = some (96, 11) := by
  unfold PrC Bk at h
  simp [World.shape?, h]
set_option maxHeartbeats 1000000 in
set_option maxRecDepth 100000 in
theorem check_used (g : Nat) (w : World) (h0 : w.cell? ⟨g, 9, none⟩ = some (.pointer (some ⟨g, 9, none⟩))) :
    Calls Tryd.prog 65 #[.pointer (some ⟨g, 9, none⟩)] w fun e w' => e = .returned (.tuple #[]) ∧ w = w' := by
  obtain ⟨j, hj, _⟩ := Option.map_eq_some_iff.1 sizeBuilder
  go_enter Tryd.func65, Tryd.ntmps65
  go_wp2
  rw [Lib.run_neq_ptr_same w _ Tryd.underlying91 hj]
  go_wp2
  go_end0
  exact ⟨rfl, rfl⟩
set_option maxHeartbeats 1000000 in
set_option maxRecDepth 100000 in
theorem check_fresh (g : Nat) (w : World) (fc : Nat → Value) (v : Value) (h : PrC w g fc (.pointer none) v) :
    Calls Tryd.prog 65 #[.pointer (some ⟨g, 9, none⟩)] w fun e w' => e = .returned (.tuple #[]) ∧ w' = w.setCell ⟨g, 9, none⟩ (.pointer (some ⟨g, 9, none⟩)) := by
  obtain ⟨j, hj, hjs⟩ := Option.map_eq_some_iff.1 sizeBuilder
  have h0 : w.cell? ⟨g, 9, none⟩ = some (.pointer none) := h.cell 9
  have hfz : w.frozen? ⟨g, 9, none⟩ = false := h.frozen 9
  have hsh := h.shape
  go_enter Tryd.func65, Tryd.ntmps65
  go_wp2
  rw [Lib.run_to_unsafe w ⟨g, 9, none⟩ Tryd.underlying91 Tryd.underlying167 hj (by rw [hjs]; decide) hsh (show 9 < 11 by decide)]
  simp only [Result.andThen]
  rw [Oper.upon_value]
  go_wp2
  rw [run_callFunc_extern Tryd.func90 (by kernel_rfl) (by kernel_rfl) (by kernel_rfl) (e := Extern.AbiNoEscape.same) (by kernel_rfl)]
  rw [Lib.run_noEscape]
  simp only [Result.andThen]
  rw [Oper.upon_value]
  go_wp2
  rw [Lib.run_from_unsafe w ⟨g, 9, none⟩ Tryd.underlying167 Tryd.underlying91 hj hsh liesBuilder]
  simp only [Result.andThen]
  rw [Oper.upon_value]
  go_wp2
  go_end0
  exact ⟨rfl, rfl⟩
theorem check_ok (w : World) (Bd g : Nat) (fc : Nat → Value) (txt : B) (h : Pr w Bd g fc txt) :
    Calls Tryd.prog 65 #[.pointer (some ⟨g, 9, none⟩)] w fun e w' => e = .returned (.tuple #[]) ∧ PrU w' Bd g fc txt ∧ KP w w' ∧ Below Bd w w' := by
  obtain ⟨ad, v, h1, h2, h3 | h3, h4⟩ := h
  · subst h3
    refine (check_fresh g w fc v h2).mono ?_
    rintro e w' ⟨rfl, rfl⟩
    refine ⟨rfl, ⟨v, h1, ?_, own_setBox h4 h2 (by decide) _ _⟩, KP.store h2 _ _, (Below.refl _ _).setCell (p := ⟨g, 9, none⟩) h1 _⟩
    have := Bk.set h2 9 (.pointer (some ⟨g, 9, none⟩))
    exact this
  · subst h3
    refine (check_used g w (Bk.cell h2 9)).mono ?_
    rintro e w' ⟨rfl, rfl⟩
    exact ⟨rfl, ⟨v, h1, h2, h4⟩, KP.refl _, Below.refl _ _⟩
theorem byteCells_app (a b : B) : Lib.byteCells (a ++ b) = Lib.byteCells a ++ Lib.byteCells b := by simp [Lib.byteCells]
set_option maxHeartbeats 2000000 in
set_option maxRecDepth 100000 in
theorem writeByte_ok (w : World) (Bd g : Nat) (fc : Nat → Value) (txt : B) (c : UInt8) (h : Pr w Bd g fc txt) (hlen : txt.length ≤ 1000000000000) :
    Calls Tryd.prog 43 #[.pointer (some ⟨g, 9, none⟩), .int .u8 c.toNat] w fun e w' => e = .returned .nilIface ∧ Pr w' Bd g fc (txt ++ [c]) ∧ KP w w' ∧ Below Bd w w' := by
  obtain ⟨i0, hi, hz0, hz1, hz2⟩ := info_parts infoByte
  have hlt := h.lt
  go_enter Tryd.func43, Tryd.ntmps43
  go_wp2_with (go_at_call 65; refine (check_ok _ Bd g fc txt h).mono ?_)
  rintro e w1 ⟨rfl, ⟨v, hB, hbk, hown⟩, hk1, hb1⟩
  have hs1 := hb1.size
  have c1 : w1.cell? ⟨g, 10, none⟩ = some v := Bk.cell hbk 10
  go_wp2_with (at_builtin; refine wpList_append_own _ rfl _ _ 92 rfl Bd 5 i0 (.int .u8 0) 1 1 Tryd.underlying92 hi hz0 hz1 hz2 rfl (by decide) _ _ _ rfl (hown.alloc _) ⟨w1.heap.size, 0, none⟩ 1 1 [.int .u8 c.toNat] rfl rfl ?c1 ?c2 ?c3 ?c4 ?c5 ?_)
  case c1 =>
    intro j u hj
    match j, hj with
    | 0, hj => simp at hj; subst hj; simp [Addr.add]
  case c2 => intro u hu; simp at hu; subst hu; rfl
  case c3 => unfold maxLen; omega
  case c4 => omega
  case c5 => simp; omega
  intro v' w2 hown' hgrow _
  have hlt1 := Bk.lt hbk
  have hbkA := Bk.alloc hbk (.cells #[.int .u8 c.toNat] 5)
  have hbk2 : PrC w2 g fc (.pointer (some ⟨g, 9, none⟩)) v := (hgrow.block g (by simp; omega) (fun e => own_far hown hbk (by decide) e.symm)).trans hbkA
  have d1 : w2.cell? ⟨g, 10, none⟩ = some v := Bk.cell hbk2 10
  have f1 : w2.frozen? ⟨g, 10, none⟩ = false := Bk.frozen hbk2 10
  have HB := Lib.hid hbk2
  obtain ⟨g', cap, rfl⟩ : ∃ g' cap, v' = .slice (some ⟨g', 0, none⟩) (txt.length + 1) cap := by
    rcases hown'.2 with ⟨_, h0⟩ | ⟨g', cap, cur, hv, _⟩
    · omega
    · exact ⟨g', cap, hv⟩
  go_wp2
  go_ret
  refine ⟨rfl, ⟨_, _, hB, Bk.set HB.out 10 _, .inr rfl, ?_⟩, ?_, ?_⟩
  · refine own_setBox ?_ HB.out (by decide) _ _
    rw [byteCells_app, List.length_append]
    simpa [Lib.byteCells] using hown'
  · exact ((hk1.trans (KP.alloc _ _)).trans (KP.grown (hown.alloc _) hgrow)).trans (KP.store HB.out _ _)
  · exact ((hb1.alloc (by omega) _).grown hgrow (by simp; omega) (fun k hk => (hown.lt k hk).1)).setCell (p := ⟨g, 10, none⟩) hB _
set_option maxHeartbeats 2000000 in
set_option maxRecDepth 100000 in
theorem writeString_ok (w : World) (Bd g : Nat) (fc : Nat → Value) (txt s : B) (h : Pr w Bd g fc txt) (hlen : txt.length + s.length ≤ 1000000000000) :
    Calls Tryd.prog 42 #[.pointer (some ⟨g, 9, none⟩), .string ⟨s.toArray⟩] w fun e w' => e = .returned (.tuple #[.int .i64 s.length, .nilIface]) ∧ Pr w' Bd g fc (txt ++ s) ∧ KP w w' ∧ Below Bd w w' := by
  obtain ⟨i0, hi, hz0, hz1, hz2⟩ := info_parts infoByte
  have hlt := h.lt
  go_enter Tryd.func42, Tryd.ntmps42
  go_wp2_with (go_at_call 65; refine (check_ok _ Bd g fc txt h).mono ?_)
  rintro e w1 ⟨rfl, ⟨v, hB, hbk, hown⟩, hk1, hb1⟩
  have hs1 := hb1.size
  have c1 : w1.cell? ⟨g, 10, none⟩ = some v := Bk.cell hbk 10
  go_wp2_with (at_builtin; refine Lib.wpList_append_own_string _ rfl _ _ 92 9 rfl Bd 5 i0 Tryd.underlying92 Tryd.underlying9 hi hz0 hz1 hz2 _ _ _ rfl hown ⟨s.toArray⟩ rfl ?c3 ?c4 ?c5 ?_)
  case c3 => have e : (⟨s.toArray⟩ : ByteArray).size = s.length := by rfl
             rw [e]; unfold maxLen; omega
  case c4 => have e : (⟨s.toArray⟩ : ByteArray).size = s.length := by rfl
             rw [e]; omega
  case c5 => omega
  intro v' w2 hown' hgrow _
  have hlt1 := Bk.lt hbk
  have hbk2 : PrC w2 g fc (.pointer (some ⟨g, 9, none⟩)) v := (hgrow.block g hlt1 (fun e => own_far hown hbk (by decide) e.symm)).trans hbk
  have d1 : w2.cell? ⟨g, 10, none⟩ = some v := Bk.cell hbk2 10
  have f1 : w2.frozen? ⟨g, 10, none⟩ = false := Bk.frozen hbk2 10
  have HB := Lib.hid hbk2
  obtain ⟨ao, n', cap, rfl⟩ : ∃ ao n' cap, v' = .slice ao n' cap := by
    rcases hown'.2 with ⟨hv, _⟩ | ⟨g', cap, cur, hv, _⟩
    · exact ⟨_, _, _, hv⟩
    · exact ⟨_, _, _, hv⟩
  go_wp2
  go_ret2
  refine ⟨rfl, ⟨_, _, hB, Bk.set HB.out 10 _, .inr rfl, ?_⟩, ?_, ?_⟩
  · refine own_setBox ?_ HB.out (by decide) _ _
    rw [byteCells_app, List.length_append]
    have e : Lib.strCells ⟨s.toArray⟩ = Lib.byteCells s := by simp [Lib.strCells, Lib.byteCells]
    rw [e] at hown'
    simpa using hown'
  · exact (hk1.trans (KP.grown hown hgrow)).trans (KP.store HB.out _ _)
  · exact (hb1.grown hgrow (by omega) (fun k hk => (hown.lt k hk).1)).setCell (p := ⟨g, 10, none⟩) hB _
set_option maxHeartbeats 1000000 in
set_option maxRecDepth 100000 in
theorem bString_ok (w : World) (Bd g : Nat) (fc : Nat → Value) (l : B) (h : Pr w Bd g fc l) (h0 : l ≠ []) :
    Calls Tryd.prog 28 #[.pointer (some ⟨g, 9, none⟩)] w fun e w' => e = .returned (.string ⟨l.toArray⟩) ∧ Below Bd w w' := by
  obtain ⟨ad, v, hB, hbk, -, hown⟩ := h
  have hl0 : l.length ≠ 0 := by simpa using h0
  obtain ⟨q, cap, cur, rfl, hbg, hg, hnc, hcm, hcs, htake⟩ : ∃ q cap cur, v = .slice (some ⟨q, 0, none⟩) l.length cap ∧ Bd ≤ q ∧ w.heap[q]? = some (.cells cur 5 (0, 0)) ∧ l.length ≤ cap ∧ cap ≤ maxLen ∧ cur.size = cap * 1 ∧ cur.toList.take (l.length * 1) = Lib.byteCells l := by
    rcases hown.2 with ⟨_, hz⟩ | ⟨q, cap, cur, hv, r⟩
    · exact absurd hz hl0
    · exact ⟨q, cap, cur, hv, r⟩
  have c1 : w.drew.cell? ⟨g, 10, none⟩ = some (.slice (some ⟨q, 0, none⟩) l.length cap) := Bk.cell hbk 10
  have hSD : (Builtin.unsafeSliceData_ #[92] 132 #[.slice (some ⟨q, 0, none⟩) l.length cap]).run Tryd.prog w.drew = .ok (.pointer (some ⟨q, 0, none⟩)) w.drew :=
    Lib.run_unsafeSliceData_row _ _ _ _ _ _ (by omega)
  have hUS : (Builtin.unsafeString_ #[132, 3] 9 #[.pointer (some ⟨q, 0, none⟩), .int .i64 l.length]).run Tryd.prog w.drew = .ok (.string ⟨l.toArray⟩) (w.drew.freeze ⟨q, 0, none⟩ l.length) := by
    refine Lib.run_unsafeString_row w.drew 132 3 9 5 Tryd.underlying132 (by kernel_rfl) q cur.size (by have hg' : w.drew.heap[q]? = some (.cells cur 5 (0, 0)) := hg; simp [World.shape?, hg']) l h0 (by omega) (by unfold maxLen at hcm; omega) ?_
    intro j x hx
    have := hown.cells (g := q) rfl j (.int .u8 x.toNat) (by simp [Lib.byteCells, hx])
    exact this
  go_enter Tryd.func28, Tryd.ntmps28
  go_wp2
  go_region
  all_goals (go_wp2; go_ret; exact ⟨rfl, Lib.below_freeze (Below.drew (Below.refl Bd w)) (p := ⟨q, 0, none⟩) hbg _⟩)
end Go.Proofs.YtkijckccfookeaaDoor
