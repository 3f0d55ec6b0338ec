/- The parser's rows in memory: fifteen rows that are written on, and what has been told and stands. Plain facts, no program. -/
import Derived.Test.YtkijckccfookeaaGreatDoorFRead
import Derived.Test.YtkijckccfookeaaGreatDoorL03
import Derived.Test.YtkijckccfookeaaGreatDoorL00
import Derived.Test.YtkijckccfookeaaGreatDoorL01
import Derived.Test.YtkijckccfookeaaGreatDoorProg
import Derived.WalkKit
import Derived.RegionTactic
import Derived.Lib.MinMax
import Derived.Lib.Strings
import Derived.LoopTactic
import Derived.WalkSpells
namespace Go.Proofs.YtkijckccfookeaaGreatDoor
open Go.RowKit

/-- a row that is written on: its slice, how many elements, its cells -/
structure RV where
  v : Value
  n : Nat
  xs : List Value
def RV.nil : RV := ⟨.slice none 0 0, 0, []⟩
/-- the types of the rows' elements: the font's eight, the last glyph's six, the last lookup's one -/
def kT : Nat → TypeId
  | 0 => 59
  | 1 => 93
  | 2 => 72
  | 3 => 97
  | 4 => 99
  | 5 => 104
  | 6 => 57
  | 7 => 3
  | 8 => 139
  | 9 => 3
  | 10 => 87
  | 11 => 89
  | 12 => 91
  | 13 => 61
  | _ => 76
def kS : Nat → Nat
  | 0 => 9
  | 1 => 2
  | 2 => 3
  | 3 => 2
  | 4 => 4
  | 5 => 1
  | 6 => 1
  | 7 => 1
  | 8 => 3
  | 9 => 1
  | 10 => 3
  | 11 => 4
  | 12 => 4
  | 13 => 2
  | _ => 6
/-- the types of a font's blocks -/
def dataT (t : TypeId) : Bool := [59, 93, 72, 97, 99, 104, 57, 3, 139, 87, 89, 91, 61, 76, 101, 95, 22].contains t
theorem kT_data (j : Nat) : dataT (kT j) = true := by
  unfold kT
  split <;> decide
theorem kS_pos (j : Nat) : 0 < kS j := by
  unfold kS
  split <;> decide
abbrev Rows := Nat → RV
def upd (rv : Rows) (i : Nat) (r : RV) : Rows := fun j => if j = i then r else rv j
theorem upd_same (rv : Rows) (i : Nat) (r : RV) : upd rv i r i = r := by simp [upd]
theorem upd_other (rv : Rows) {i j : Nat} (r : RV) (h : j ≠ i) : upd rv i r j = rv j := by simp [upd, h]
structure Live (w : World) (Bd : Nat) (rv : Rows) : Prop where
  own : ∀ j, j < 15 → w.ownsRow Bd (kT j) (kS j) (rv j).v (rv j).n (rv j).xs
  apart : ∀ i j, i < 15 → j < 15 → i ≠ j → ∀ g, (rv i).v.ownBlock = some g → (rv j).v.ownBlock ≠ some g
/-- what has been told and is written no more -/
def Fz (w : World) (rv : Rows) : Bs := fun b => ∃ cs t, Bk w b t cs ∧ dataT t = true ∧ ∀ j, j < 15 → (rv j).v.ownBlock ≠ some b
/-- from one world to a later one: what stands, stands -/
structure Tr (w : World) (rv : Rows) (w' : World) (rv' : Rows) : Prop where
  same : Same (Fz w rv) w w'
  sub : ∀ b, Fz w rv b → Fz w' rv' b
theorem Tr.refl (w : World) (rv : Rows) : Tr w rv w rv := ⟨Same.refl _ _, fun _ h => h⟩
theorem Tr.trans {a b c : World} {x y z : Rows} (h : Tr a x b y) (k : Tr b y c z) : Tr a x c z :=
  ⟨fun g hg => (k.same g (h.sub g hg)).trans (h.same g hg), fun g hg => k.sub g (h.sub g hg)⟩
theorem Tr.rel {α : Type} {R : Rel α} (ok : R.Ok) {w w' : World} {rv rv' : Rows} {cs : List Value} {x : α} (h : Tr w rv w' rv') (k : R w (Fz w rv) cs x) : R w' (Fz w' rv') cs x := ok.mono (ok.keep k h.same) h.sub
theorem Tr.sl {α : Type} {R : Rel α} (ok : R.Ok) {size : Nat} {w w' : World} {rv rv' : Rows} {A : Option Addr} {xs : List α} (h : Tr w rv w' rv') (k : Sl R size w (Fz w rv) A xs) : Sl R size w' (Fz w' rv') A xs := (k.keep ok h.same).mono ok h.sub
theorem Tr.fl {α : Type} {R : Rel α} (ok : R.Ok) {size : Nat} {w w' : World} {rv rv' : Rows} {cs : List Value} {xs : List α} (h : Tr w rv w' rv') (k : Fl R size w (Fz w rv) cs xs) : Fl R size w' (Fz w' rv') cs xs := (k.keep ok h.same).mono ok h.sub
theorem ownBlock_bk {w : World} {base : Nat} {e : TypeId} {size : Nat} {v : Value} {n : Nat} {xs : List Value} (h : w.ownsRow base e size v n xs) {g : Nat} (hg : v.ownBlock = some g) : ∃ cur, Bk w g e cur := own_bk h g hg
theorem bk_one {w : World} {g : Nat} {t t' : TypeId} {cs cs' : Array Value} (h : Bk w g t cs) (k : Bk w g t' cs') : t = t' ∧ cs = cs' := by
  unfold Bk at h k
  rw [h] at k
  injection k with k
  injection k with k1 k2
  exact ⟨k2, k1⟩
/-- all that is no block of the rows', and all else that was, is as it was -/
theorem Live.keep {w w' : World} {Bd : Nat} {rv : Rows} (h : Live w Bd rv) (hk : ∀ j, j < 15 → ∀ g, (rv j).v.ownBlock = some g → w'.heap[g]? = w.heap[g]?) : Live w' Bd rv :=
  ⟨fun j hj => by
    obtain ⟨h1, h2⟩ := h.own j hj
    refine ⟨h1, ?_⟩
    rcases h2 with h2 | ⟨g, cap, cur, e, hb, hg, rest⟩
    · exact .inl h2
    · exact .inr ⟨g, cap, cur, e, hb, (hk j hj g (by rw [e]; rfl)).trans hg, rest⟩, h.apart⟩
theorem Live.below {w w' : World} {Bd : Nat} {rv : Rows} (h : Live w Bd rv) (hb : Below w.heap.size w w') : Live w' Bd rv :=
  h.keep fun j hj g hg => hb.block g ((h.own j hj).lt g hg).2
theorem Tr.below {w w' : World} {rv : Rows} (hb : Below w.heap.size w w') : Tr w rv w' rv :=
  ⟨fun b ⟨cs, t, h1, _⟩ => hb.block b h1.lt, fun b ⟨cs, t, h1, h2, h3⟩ => ⟨cs, t, (hb.block b h1.lt).trans h1, h2, h3⟩⟩
/-- a block that is none of the font's is written -/
theorem Live.other {w w' : World} {Bd : Nat} {rv : Rows} (h : Live w Bd rv) {row : Option Nat} (hg : w.grownBy w' row) (hr : ∀ g, row = some g → ∀ t cs, Bk w g t cs → dataT t = false) : Live w' Bd rv :=
  h.keep fun j hj g hgj => hg.block g ((h.own j hj).lt g hgj).2 (fun e => by
    obtain ⟨cur, hb⟩ := ownBlock_bk (h.own j hj) hgj
    have := hr g e.symm _ _ hb
    rw [kT_data] at this
    cases this)
theorem Tr.other {w w' : World} {rv : Rows} {row : Option Nat} (hg : w.grownBy w' row) (hr : ∀ g, row = some g → ∀ t cs, Bk w g t cs → dataT t = false) : Tr w rv w' rv := by
  have key : ∀ b, Fz w rv b → w'.heap[b]? = w.heap[b]? := fun b ⟨cs, t, h1, h2, _⟩ => hg.block b h1.lt (fun e => by
    have := hr b e.symm _ _ h1
    rw [h2] at this
    cases this)
  exact ⟨key, fun b hb => by
    obtain ⟨cs, t, h1, h2, h3⟩ := hb
    exact ⟨cs, t, (key b ⟨cs, t, h1, h2, h3⟩).trans h1, h2, h3⟩⟩
/-- row i is written on -/
theorem Live.row {w w' : World} {Bd : Nat} {rv : Rows} (h : Live w Bd rv) {i : Nat} (hi : i < 15) {r : RV} (hg : w.grownBy w' (rv i).v.ownBlock) (ho : w'.ownsRow Bd (kT i) (kS i) r.v r.n r.xs)
    (hl : r.v.ownBlock = (rv i).v.ownBlock ∨ ∀ g, r.v.ownBlock = some g → w.heap.size ≤ g) : Live w' Bd (upd rv i r) := by
  have hne : ∀ j, j < 15 → j ≠ i → (rv j).v.ownBlock = none ∨ (rv j).v.ownBlock ≠ (rv i).v.ownBlock := fun j hj hji => by
    cases hb : (rv j).v.ownBlock with
    | none => exact .inl rfl
    | some g => exact .inr (fun e => h.apart j i hj hi hji g hb e.symm)
  have hnew : ∀ j, j < 15 → j ≠ i → ∀ g, (rv j).v.ownBlock = some g → r.v.ownBlock ≠ some g := fun j hj hji g hb e => by
    rcases hl with hl | hl
    · rw [hl] at e
      exact h.apart j i hj hi hji g hb e
    · have := hl g e
      have := ((h.own j hj).lt g hb).2
      omega
  refine ⟨fun j hj => ?_, fun a b ha hb hab g => ?_⟩
  · by_cases hji : j = i
    · subst hji
      rw [upd_same]
      exact ho
    · rw [upd_other _ _ hji]
      exact (h.own j hj).kept hg (hne j hj hji)
  · by_cases hai : a = i
    · subst hai
      rw [upd_same, upd_other _ _ (Ne.symm hab)]
      intro e1 e2
      exact hnew b hb (Ne.symm hab) g e2 e1
    · rw [upd_other _ _ hai]
      by_cases hbi : b = i
      · subst hbi
        rw [upd_same]
        exact hnew a ha hai g
      · rw [upd_other _ _ hbi]
        exact h.apart a b ha hb hab g
theorem Tr.row {w w' : World} {rv : Rows} {i : Nat} (hi : i < 15) {r : RV} (hg : w.grownBy w' (rv i).v.ownBlock) (hl : r.v.ownBlock = (rv i).v.ownBlock ∨ ∀ g, r.v.ownBlock = some g → w.heap.size ≤ g) : Tr w rv w' (upd rv i r) := by
  have key : ∀ b, Fz w rv b → w'.heap[b]? = w.heap[b]? := fun b ⟨cs, t, h1, h2, h3⟩ => hg.block b h1.lt (fun e => h3 i hi e.symm)
  refine ⟨key, fun b hb => ?_⟩
  obtain ⟨cs, t, h1, h2, h3⟩ := hb
  refine ⟨cs, t, (key b ⟨cs, t, h1, h2, h3⟩).trans h1, h2, fun j hj => ?_⟩
  by_cases hji : j = i
  · subst hji
    rw [upd_same]
    rcases hl with hl | hl
    · rw [hl]
      exact h3 j hi
    · intro e
      have := hl b e
      have := h1.lt
      omega
  · rw [upd_other _ _ hji]
    exact h3 j hj
/-- a row is begun anew: what it was stands -/
theorem Live.drop {w : World} {Bd : Nat} {rv : Rows} (h : Live w Bd rv) (i : Nat) : Live w Bd (upd rv i RV.nil) := by
  refine ⟨fun j hj => ?_, fun a b ha hb hab g => ?_⟩
  · by_cases hji : j = i
    · subst hji
      rw [upd_same]
      exact World.ownsRow_nil w Bd _ _
    · rw [upd_other _ _ hji]
      exact h.own j hj
  · by_cases hai : a = i
    · subst hai
      rw [upd_same]
      intro e
      cases e
    · rw [upd_other _ _ hai]
      by_cases hbi : b = i
      · subst hbi
        rw [upd_same]
        intro _ e
        cases e
      · rw [upd_other _ _ hbi]
        exact h.apart a b ha hb hab g
theorem Tr.drop (w : World) (rv : Rows) (i : Nat) : Tr w rv w (upd rv i RV.nil) :=
  ⟨Same.refl _ _, fun b ⟨cs, t, h1, h2, h3⟩ => ⟨cs, t, h1, h2, fun j hj => by
    by_cases hji : j = i
    · subst hji; rw [upd_same]; intro e; cases e
    · rw [upd_other _ _ hji]; exact h3 j hj⟩⟩
/-- a row of the call's own, read -/
theorem Sl.of_own' {α : Type} {R : Rel α} {size : Nat} {w : World} {S : Bs} {cells : List Value} {xs : List α} {A : Option Addr} {base n c : Nat} {e : TypeId} (h : w.ownsRow base e size (.slice A n c) n cells) (hf : Fl R size w S cells xs) (hS : ∀ g, (Value.slice A n c).ownBlock = some g → S g) (hsz : 0 < size) : Sl R size w S A xs := by
  refine ⟨cells, hf, fun h0 => ?_⟩
  rcases h.2 with ⟨h1, h2⟩ | ⟨g, cap, cur, h1, hb, hh, hn, -⟩
  · have h3 := h.1
    have h4 := hf.1
    subst h2
    simp only [Nat.zero_mul, List.length_eq_zero_iff] at h3
    subst h3
    have := Nat.mul_pos h0 hsz
    rw [← h4] at this
    simp at this
  · simp only [Value.slice.injEq, true_and] at h1
    obtain ⟨rfl, rfl⟩ := h1
    refine ⟨g, 0, rfl, hS g rfl, fun j u hu => ?_⟩
    have := h.cells (g := g) rfl j u hu
    rwa [addr_add] at this
theorem Live.fz_drop {w : World} {Bd : Nat} {rv : Rows} (h : Live w Bd rv) {i : Nat} (hi : i < 15) : ∀ g, (rv i).v.ownBlock = some g → Fz w (upd rv i RV.nil) g := by
  intro g hg
  obtain ⟨cur, hb⟩ := ownBlock_bk (h.own i hi) hg
  refine ⟨cur, kT i, hb, kT_data i, fun j hj => ?_⟩
  by_cases hji : j = i
  · subst hji; rw [upd_same]; intro e; cases e
  · rw [upd_other _ _ hji]
    exact h.apart i j hi hj (Ne.symm hji) g hg
/-- a cell of a row is written -/
theorem own_set {w : World} {base : Nat} {e : TypeId} {size n c g : Nat} {xs : List Value} (h : w.ownsRow base e size (.slice (some ⟨g, 0, none⟩) n c) n xs) (i : Nat) (u : Value) :
    (w.setCell ⟨g, i, none⟩ u).ownsRow base e size (.slice (some ⟨g, 0, none⟩) n c) n (xs.set i u) := by
  refine ⟨by simpa using h.1, ?_⟩
  rcases h.2 with ⟨h1, h2⟩ | ⟨g', cap, cur, h1, hb, hh, hn, hm, hs, ht⟩
  · cases h1
  · simp only [Value.slice.injEq, Option.some.injEq, Addr.mk.injEq, and_true, true_and] at h1
    obtain ⟨rfl, rfl⟩ := h1
    refine .inr ⟨g, c, cur.setIfInBounds i u, rfl, hb, Bk.set hh i u, hn, hm, by simpa using hs, ?_⟩
    rw [Array.toList_setIfInBounds, List.take_set, ht]
theorem grown_set (w : World) (p : Addr) (u : Value) : w.grownBy (w.setCell p u) (some p.block) :=
  ⟨rfl, rfl, rfl, by simp [World.setCell], fun k _ hne => Below.heap_setCell w p u k (fun e => hne (by rw [e]))⟩
theorem own_slice {w : World} {base : Nat} {e : TypeId} {size : Nat} {v : Value} {n : Nat} {xs : List Value} (h : w.ownsRow base e size v n xs) : ∃ A c, v = .slice A n c := by
  rcases h.2 with ⟨rfl, rfl⟩ | ⟨g, cap, cur, rfl, _⟩
  · exact ⟨none, 0, rfl⟩
  · exact ⟨_, _, rfl⟩
end Go.Proofs.YtkijckccfookeaaGreatDoor
/- The contracts of fleuronref05.blank, digit, letter, fleuronlaw05.few. -/
namespace Go.Proofs.YtkijckccfookeaaGreatDoor
open Go.RowKit

def digitB (c : UInt8) : Bool := decide (48 ≤ c.toNat) && decide (c.toNat ≤ 57)
def letterB (c : UInt8) : Bool := (decide (65 ≤ c.toNat) && decide (c.toNat ≤ 90)) || (decide (97 ≤ c.toNat) && decide (c.toNat ≤ 122)) || c == 95 || c == 46
theorem u8_eq (c d : UInt8) : (c == d) = decide (c.toNat = d.toNat) := by
  rw [Bool.eq_iff_iff]; simp [UInt8.toNat_inj]

theorem extract_list (s : List UInt8) (a b : Nat) : (ByteArray.mk s.toArray).extract a b = ⟨((s.take b).drop a).toArray⟩ := by
  apply ByteArray.ext
  rw [ByteArray.data_extract]
  apply Array.ext'
  simp [List.extract_eq_take_drop, List.drop_take]

theorem bool_ret {x y : Bool} (h : x = true ↔ y = true) : Ending.returned (.bool x) = .returned (.bool y) := by rw [Bool.eq_iff_iff.2 h]
end Go.Proofs.YtkijckccfookeaaGreatDoor
/- Plain Lean: what number a text is. -/
namespace Go.Proofs.YtkijckccfookeaaGreatDoor
open Go.RowKit

/-- what digits say -/
def valB (d : B) : Nat := d.foldl (fun n c => 10 * n + (c.toNat - 48)) 0
def numD (d : B) : Bool := d.all digitB && decide (1 ≤ d.length ∧ d.length ≤ 9)
/-- behind a sign, if there is one -/
def unsign (s : B) : B := match s with | 45 :: r => r | s => s
def signed (s : B) : Bool := match s with | 45 :: _ => true | _ => false
def numV (s : B) : Int := if numD (unsign s) then (if signed s then -(valB (unsign s) : Int) else (valB (unsign s) : Int)) else 0
def numOk (s : B) : Bool := numD (unsign s)
theorem valB_snoc (d : B) (c : UInt8) : valB (d ++ [c]) = 10 * valB d + (c.toNat - 48) := by simp [valB]
theorem pow_step (k : Nat) : 10 ^ (k + 1) = 10 * 10 ^ k := by rw [Nat.pow_succ, Nat.mul_comm]
theorem valB_lt (d : B) (h : ∀ c ∈ d, digitB c = true) : valB d < 10 ^ d.length := by
  suffices h : ∀ k, k ≤ d.length → valB (d.take k) < 10 ^ k by simpa using h d.length (Nat.le_refl _)
  intro k
  induction k with
  | zero => intro _; simp [valB]
  | succ k ih =>
    intro hk
    have e : d.take (k + 1) = d.take k ++ [d[k]] := by rw [List.take_succ_eq_append_getElem (by omega)]
    have h1 := ih (by omega)
    have h2 := h d[k] (List.getElem_mem _)
    simp [digitB] at h2
    rw [e, valB_snoc, pow_step]
    omega
theorem numD_no (d : B) (c : UInt8) (h : c ∈ d) (hc : digitB c = false) : numD d = false := by
  rw [numD, Bool.and_eq_false_iff]
  left
  rw [List.all_eq_false]
  exact ⟨c, h, by simp [hc]⟩
theorem numD_len (d : B) (h : d.length < 1 ∨ 9 < d.length) : numD d = false := by
  rw [numD, Bool.and_eq_false_iff]
  right
  simp
  omega
theorem numD_yes (d : B) (h : ∀ c ∈ d, digitB c = true) (h1 : 1 ≤ d.length) (h2 : d.length ≤ 9) : numD d = true := by
  rw [numD, Bool.and_eq_true, List.all_eq_true]
  exact ⟨h, by simp; omega⟩
theorem unsign_cases (s : B) : (∃ r, s = 45 :: r ∧ unsign s = r ∧ signed s = true) ∨ (unsign s = s ∧ signed s = false ∧ ∀ r, s ≠ 45 :: r) := by
  unfold unsign signed
  split
  · exact .inl ⟨_, rfl, rfl, rfl⟩
  · rename_i h
    exact .inr ⟨rfl, rfl, h⟩
theorem digitB_iff (c : UInt8) : digitB c = true ↔ 48 ≤ c.toNat ∧ c.toNat ≤ 57 := by simp [digitB]
end Go.Proofs.YtkijckccfookeaaGreatDoor
/- The contract of fleuronref05.Name. -/
namespace Go.Proofs.YtkijckccfookeaaGreatDoor
open Go.RowKit

def nameAt (i : Nat) (c : UInt8) : Bool := letterB c || (decide (i ≠ 0) && (digitB c || c == 45))
def nameOk (s : B) : Prop := ∀ i c, s[i]? = some c → nameAt i c = true
def nameB (s : B) : Bool := decide (0 < s.length ∧ s.length ≤ 16) && (List.range s.length).all (fun i => nameAt i (s[i]?.getD 0))

theorem byte_at (s : B) (k : Nat) (c : UInt8) (h : s[k]? = some c) (hk : k < (ByteArray.mk s.toArray).size) : (ByteArray.mk s.toArray)[k]'hk = c := by
  obtain ⟨h1, h2⟩ := List.getElem?_eq_some_iff.1 h
  rw [← h2]
  rfl
theorem nameB_no (s : B) (k : Nat) (c : UInt8) (h : s[k]? = some c) (hn : nameAt k c = false) : nameB s = false := by
  rw [nameB, Bool.and_eq_false_iff]
  right
  obtain ⟨h1, h2⟩ := List.getElem?_eq_some_iff.1 h
  rw [List.all_eq_false]
  exact ⟨k, by simpa using h1, by simp [h, hn]⟩
theorem nameB_yes (s : B) (h : ∀ j c, j < s.length → s[j]? = some c → nameAt j c = true) : nameB s = decide (0 < s.length ∧ s.length ≤ 16) := by
  rw [nameB]
  have : ((List.range s.length).all fun i => nameAt i (s[i]?.getD 0)) = true := by
    rw [List.all_eq_true]
    intro i hi
    have hi' : i < s.length := by simpa using hi
    rw [List.getElem?_eq_getElem hi']
    exact h i _ hi' (List.getElem?_eq_getElem hi')
  rw [this, Bool.and_true]

theorem nameAt_no {k : Nat} {c : UInt8} (h1 : ¬ letterB c = true) (h2 : k = 0) : nameAt k c = false := by simp [nameAt, h1, h2]
theorem nameAt_no2 {k : Nat} {c : UInt8} (h1 : ¬ letterB c = true) (h2 : ¬ digitB c = true) (h3 : ((k : Int) == 0) = true ∨ ((c.toNat : Int) != 45) = true) : nameAt k c = false := by
  simp only [nameAt, u8_eq, Bool.or_eq_false_iff, Bool.and_eq_false_iff]
  refine ⟨by simpa using h1, ?_⟩
  rcases h3 with h3 | h3
  · left; simp at h3; simp [h3]
  · right; simp at h3 h2; refine ⟨h2, ?_⟩; simp; omega
theorem nameAt_y {k : Nat} {c : UInt8} (h3 : ((k : Int) == 0) = false ∧ ((c.toNat : Int) != 45) = false) : nameAt k c = true := by
  obtain ⟨h1, h2⟩ := h3
  simp at h1 h2
  have : c.toNat = 45 := by omega
  simp [nameAt, u8_eq, this, h1]
theorem nameAt_high {k : Nat} {c : UInt8} (h : 128 ≤ c.toNat) : nameAt k c = false := by
  simp [nameAt, letterB, digitB, u8_eq]
  omega
theorem nameB_len (s : B) (h : s.length < 1 ∨ 16 < s.length) : nameB s = false := by
  rw [nameB, Bool.and_eq_false_iff]
  left
  simp
  omega
theorem nameAt_iff (k : Nat) (c : UInt8) : nameAt k c = true ↔ (65 ≤ c.toNat ∧ c.toNat ≤ 90) ∨ (97 ≤ c.toNat ∧ c.toNat ≤ 122) ∨ c.toNat = 95 ∨ c.toNat = 46 ∨ (k ≠ 0 ∧ ((48 ≤ c.toNat ∧ c.toNat ≤ 57) ∨ c.toNat = 45)) := by
  simp [nameAt, letterB, digitB, u8_eq]
  omega
end Go.Proofs.YtkijckccfookeaaGreatDoor
