/- unparse: number, Op, anchorName, lookupName, line. -/
import Derived.Test.YtkijckccfookeaaDoorBuild
import Derived.Test.YtkijckccfookeaaDoorShelf
import Derived.LoopTactic
import Derived.WalkSpells
import Derived.Lib.Strings
namespace Go.Proofs.YtkijckccfookeaaDoor
open Go.RowKit Go.Sort

def strs (ws : List B) : List Value := ws.map fun s => .string ⟨s.toArray⟩
theorem strs_app (a b : List B) : strs (a ++ b) = strs a ++ strs b := by simp [strs]
theorem strs_len (a : List B) : (strs a).length = a.length := by simp [strs]
theorem strs_one (ws : List B) : ∀ u ∈ strs ws, u.oneCell' = true := by
  intro u hu
  simp only [strs, List.mem_map] at hu
  obtain ⟨p, _, rfl⟩ := hu
  rfl
theorem strs_fl (w : World) (S : Bs) (ws : List B) : Fl StrR 1 w S (strs ws) ws :=
  ⟨by simp [strs], fun k x hx => ⟨[.string ⟨x.toArray⟩], rfl, rfl, fun j u hu => by
    cases j with
    | zero => simp at hu; subst hu; simp [strs, hx]
    | succ j => simp at hu⟩⟩
/-- a table of the program's: what its variable holds -/
def TabS (w : World) (g : Nat) (cs : List Value) : Prop := ∃ t fz, w.heap[g]? = some (.cells cs.toArray t fz)
theorem TabS.cell {w : World} {g : Nat} {cs : List Value} (h : TabS w g cs) (i : Nat) : w.cell? ⟨g, i, none⟩ = cs[i]? := by
  obtain ⟨t, fz, h⟩ := h
  simp [World.cell?, h]
theorem TabS.lt {w : World} {g : Nat} {cs : List Value} (h : TabS w g cs) : g < w.heap.size := by
  obtain ⟨t, fz, h⟩ := h
  exact (Array.getElem?_eq_some_iff.1 h).1
theorem TabS.below {w w' : World} {g Bd : Nat} {cs : List Value} (h : TabS w g cs) (hb : Below Bd w w') (hg : g < Bd) : TabS w' g cs := by
  obtain ⟨t, fz, h⟩ := h
  exact ⟨t, fz, (hb.block g hg).trans h⟩
def nG : Nat := 9 + 1
/-- the tables that unparse leans on -/
structure Tabs (w : World) : Prop where
  ops : TabS w 0 (strs opNames)
  anch : TabS w 2 (strs anchorNames)
  kinds : TabS w 3 (strs kindNames)
  pow : TabS w 7 (Lib.pow10Tab.map fun z => Value.int .u64 z)
theorem Tabs.below {w w' : World} {Bd : Nat} (h : Tabs w) (hb : Below Bd w w') (hg : nG ≤ Bd) : Tabs w' := by
  unfold nG at hg
  exact ⟨h.ops.below hb (by omega), h.anch.below hb (by omega), h.kinds.below hb (by omega), h.pow.below hb (by omega)⟩
theorem Tabs.all {w w' : World} (h : Tabs w) (hb : Below w.heap.size w w') : Tabs w' :=
  ⟨h.ops.below hb h.ops.lt, h.anch.below hb h.anch.lt, h.kinds.below hb h.kinds.lt, h.pow.below hb h.pow.lt⟩
theorem Tabs.tab {w : World} (h : Tabs w) : Lib.TabIs Tryd.prog w "internal/strconv.uint64pow10" .u64 Lib.pow10Tab := by
  obtain ⟨t, fz, h⟩ := h.pow
  have hg : Tryd.prog.globalNamed "internal/strconv.uint64pow10" = some 7 := by kernel_rfl
  simp [Lib.TabIs, World.var?, hg, h]
theorem nDigits_le (k : Nat) : ∀ u, u < 10 ^ (k + 1) → Lib.nDigits u ≤ k + 1 := by
  induction k with
  | zero => intro u hu; rw [Lib.nDigits_small (by simpa using hu)]; exact Nat.le_refl _
  | succ k ih =>
    intro u hu
    by_cases h : u < 10
    · rw [Lib.nDigits_small h]; omega
    · rw [Lib.nDigits_big h]
      have := ih (u / 10) (by rw [Nat.pow_succ] at hu; omega)
      omega
theorem itB_len {n : Int} (h : I64 n) : (itB n).length ≤ 21 := by
  unfold I64 at h
  have hb : ∀ u : Nat, u ≤ 9223372036854775808 → (Lib.decDigits u).length ≤ 20 := fun u hu => by
    rw [Lib.decDigits_length]
    exact nDigits_le 19 u (Nat.lt_of_le_of_lt hu (by decide))
  unfold itB Lib.itoa
  split
  · have := hb n.natAbs (by omega)
    simp
    omega
  · have := hb n.toNat (by omega)
    omega
theorem below_grow (w : World) (k : Nat) (os : Array Obj) : Below w.heap.size w (grow (w.drewN k) os) :=
  ⟨rfl, rfl, rfl, by simp [grow], fun b hb => by
    have : (grow (w.drewN k) os).heap = w.heap ++ os := rfl
    rw [this, Array.getElem?_append_left hb]⟩
set_option maxHeartbeats 1000000 in
theorem number_ok (w : World) (n : Int) (hT : Tabs w) (hn : I64 n) : Calls Tryd.prog 21 #[.int .i64 n] w fun e w' => e = .returned (.string ⟨(itB n).toArray⟩) ∧ Below w.heap.size w w' := by
  have hc := Lib.hid (Tryd.strconv_Itoa n hn.1 hn.2 w hT.tab)
  clear hn
  go_enter Tryd.func21, Tryd.ntmps21
  go_wp2_with fail
  refine hc.out.mono ?_
  rintro e w' ⟨rfl, k, os, rfl⟩
  go_wp2
  go_ret
  exact ⟨rfl, below_grow w k os⟩
theorem pick_lo (l : List B) (n : Int) (h : n < 1) : pick l n = [63] := by rw [pick, if_pos h]
theorem pick_hi (l : List B) (n : Int) (h : (l.length : Int) < n) : pick l n = [63] := by
  rw [pick]
  split
  · rfl
  · rw [List.getElem?_eq_none (by omega)]
    rfl
theorem pick_in (l : List B) (n : Int) (h1 : 1 ≤ n) (h2 : n ≤ l.length) : ∃ s, l[(n - 1).toNat]? = some s ∧ pick l n = s := by
  rw [pick, if_neg (by omega)]
  have h : (n - 1).toNat < l.length := by omega
  exact ⟨l[(n - 1).toNat], List.getElem?_eq_getElem h, by rw [List.getElem?_eq_getElem h]; rfl⟩
theorem strs_get {l : List B} {i : Nat} {s : B} (h : l[i]? = some s) : (strs l)[i]? = some (.string ⟨s.toArray⟩) := by simp [strs, h]
set_option maxHeartbeats 1000000 in
theorem op_ok (w : World) (n : Int) (hT : Tabs w) : Calls Tryd.prog 13 #[.int .i64 n] w fun e w' => e = .returned (.string ⟨(opB n).toArray⟩) ∧ w = w' := by
  by_cases h1 : n < 1
  · have hp := Lib.hid (pick_lo opNames n h1)
    go_enter Tryd.func13, Tryd.ntmps13
    go_wp2
    go_ret
    exact ⟨by rw [opB, hp.out]; rfl, rfl⟩
  · by_cases h2 : 39 < n
    · have hp := Lib.hid (pick_hi opNames n (by show ((39 : Nat) : Int) < n; omega))
      go_enter Tryd.func13, Tryd.ntmps13
      go_wp2
      go_ret
      exact ⟨by rw [opB, hp.out]; rfl, rfl⟩
    · obtain ⟨s, hs, hp0⟩ := pick_in opNames n (by omega) (by simp only [opNames, List.length_cons, List.length_nil]; omega)
      have hp := Lib.hid hp0
      clear hp0
      have hc : w.cell? ⟨0, n.toNat - 1, none⟩ = some (.string ⟨s.toArray⟩) := by rw [show n.toNat - 1 = (n - 1).toNat by omega, hT.ops.cell]; exact strs_get hs
      clear hs
      go_enter Tryd.func13, Tryd.ntmps13
      go_wp2
      go_ret
      exact ⟨by rw [opB, hp.out]; rfl, rfl⟩
set_option maxHeartbeats 1000000 in
theorem anchorName_ok (w : World) (n : Int) (hT : Tabs w) : Calls Tryd.prog 47 #[.int .i64 n] w fun e w' => e = .returned (.string ⟨(pick anchorNames n).toArray⟩) ∧ w = w' := by
  by_cases h1 : n < 1
  · have hp := Lib.hid (pick_lo anchorNames n h1)
    go_enter Tryd.func47, Tryd.ntmps47
    go_wp2
    go_ret
    exact ⟨by rw [hp.out]; rfl, rfl⟩
  · by_cases h2 : 4 < n
    · have hp := Lib.hid (pick_hi anchorNames n (by show ((4 : Nat) : Int) < n; omega))
      go_enter Tryd.func47, Tryd.ntmps47
      go_wp2
      go_ret
      exact ⟨by rw [hp.out]; rfl, rfl⟩
    · obtain ⟨s, hs, hp0⟩ := pick_in anchorNames n (by omega) (by simp only [anchorNames, List.length_cons, List.length_nil]; omega)
      have hp := Lib.hid hp0
      clear hp0
      have hc : w.cell? ⟨2, n.toNat - 1, none⟩ = some (.string ⟨s.toArray⟩) := by rw [show n.toNat - 1 = (n - 1).toNat by omega, hT.anch.cell]; exact strs_get hs
      clear hs
      go_enter Tryd.func47, Tryd.ntmps47
      go_wp2
      go_ret
      exact ⟨by rw [hp.out]; rfl, rfl⟩
set_option maxHeartbeats 1000000 in
theorem lookupName_ok (w : World) (n : Int) (hT : Tabs w) : Calls Tryd.prog 48 #[.int .i64 n] w fun e w' => e = .returned (.string ⟨(pick kindNames n).toArray⟩) ∧ w = w' := by
  by_cases h1 : n < 1
  · have hp := Lib.hid (pick_lo kindNames n h1)
    go_enter Tryd.func48, Tryd.ntmps48
    go_wp2
    go_ret
    exact ⟨by rw [hp.out]; rfl, rfl⟩
  · by_cases h2 : 8 < n
    · have hp := Lib.hid (pick_hi kindNames n (by show ((8 : Nat) : Int) < n; omega))
      go_enter Tryd.func48, Tryd.ntmps48
      go_wp2
      go_ret
      exact ⟨by rw [hp.out]; rfl, rfl⟩
    · obtain ⟨s, hs, hp0⟩ := pick_in kindNames n (by omega) (by simp only [kindNames, List.length_cons, List.length_nil]; omega)
      have hp := Lib.hid hp0
      clear hp0
      have hc : w.cell? ⟨3, n.toNat - 1, none⟩ = some (.string ⟨s.toArray⟩) := by rw [show n.toNat - 1 = (n - 1).toNat by omega, hT.kinds.cell]; exact strs_get hs
      clear hs
      go_enter Tryd.func48, Tryd.ntmps48
      go_wp2
      go_ret
      exact ⟨by rw [hp.out]; rfl, rfl⟩
theorem moreB_snoc (ws : List B) (k : Nat) (s : B) (h : ws[k]? = some s) : moreB (ws.take (k + 1)) = moreB (ws.take k) ++ 32 :: s := by
  obtain ⟨hk, hg⟩ := List.getElem?_eq_some_iff.1 h
  rw [List.take_succ_eq_append_getElem hk, hg]
  simp [moreB]
theorem moreB_le (ws : List B) (k : Nat) : (moreB (ws.take k)).length ≤ (moreB ws).length := by
  conv => rhs; rw [← List.take_append_drop k ws]
  simp only [moreB, List.flatMap_append, List.length_append]
  omega
set_option maxHeartbeats 2000000 in
theorem line_ok (w : World) (Bd g : Nat) (fc : Nat → Value) (txt first : B) (A : Option Addr) (c : Nat) (ws : List B) (h : Pr w Bd g fc txt) (hA : Sl StrR 1 w (FT w) A ws) (hlen : txt.length + (lineB first ws).length ≤ 1000000000000) (hws : ws.length ≤ 1000000000000) :
    Calls Tryd.prog 20 #[.pointer (some ⟨g, 0, none⟩), .string ⟨first.toArray⟩, .slice A ws.length c] w fun e w' => e = .returned (.tuple #[]) ∧ Pr w' Bd g fc (txt ++ lineB first ws) ∧ KP w w' ∧ Below Bd w w' := by
  have hl2 : txt.length + first.length + (moreB ws).length + 1 ≤ 1000000000000 := by
    simp only [lineB, List.length_append, List.length_cons, List.length_nil] at hlen
    omega
  clear hlen
  go_enter Tryd.func20, Tryd.ntmps20
  go_wp2_with (go_at_call 42; refine (writeString_ok _ Bd g fc txt first h (by omega)).mono ?_; rintro e w1 ⟨rfl, hp1, hk1, hb1⟩)
  go_loopw [15] (fun i wr => ∃ k : Nat, k ≤ ws.length ∧ i = .int .i64 k ∧ Pr wr Bd g fc (txt ++ first ++ moreB (ws.take k)) ∧ KP w wr ∧ Below Bd w wr) (fun i _ => ws.length - (intOf i).toNat)
  case atStart => exact ⟨0, Nat.zero_le _, rfl, by simpa [moreB] using hp1, hk1, hb1⟩
  case round =>
    obtain ⟨k, hk, rfl, hp, hkp, hbl⟩ := hrel
    have hm := moreB_le ws k
    by_cases hlt : k < ws.length
    · obtain ⟨b, o, s, rfl, -, hs, q1⟩ := (hkp.sl StrR.ok hA).str hlt
      have hsn := moreB_snoc ws k s hs.out
      have hm2 := moreB_le ws (k + 1)
      rw [hsn] at hm2
      simp only [List.length_append, List.length_cons] at hm2
      have Hs := Lib.hid hsn
      clear hsn hs
      go_wp2_with (first
        | (go_at_call 43; refine (writeByte_ok _ Bd g fc _ 32 hp (by simp only [List.length_append]; omega)).mono ?_; rintro e w2 ⟨rfl, hp2, hk2, hb2⟩)
        | (go_at_call 42; refine (writeString_ok _ Bd g fc _ s hp2 (by simp only [List.length_append, List.length_cons, List.length_nil]; omega)).mono ?_; rintro e w3 ⟨rfl, hp3, hk3, hb3⟩))
      go_roundw
      case rel => exact ⟨k + 1, by omega, by simp, by rw [Hs.out]; simpa using hp3, (hkp.trans hk2).trans hk3, (hbl.trans hb2).trans hb3⟩
      case measure => simp [intOf]; omega
    · obtain rfl : k = ws.length := by omega
      go_wp2_with (go_at_call 43; refine (writeByte_ok _ Bd g fc _ 10 hp (by simp only [List.length_append]; omega)).mono ?_; rintro e w2 ⟨rfl, hp2, hk2, hb2⟩)
      go_end0
      refine ⟨rfl, ?_, hkp.trans hk2, hbl.trans hb2⟩
      simpa [lineB] using hp2
end Go.Proofs.YtkijckccfookeaaDoor
