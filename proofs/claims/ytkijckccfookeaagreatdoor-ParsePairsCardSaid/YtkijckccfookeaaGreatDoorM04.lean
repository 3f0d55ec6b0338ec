/- The parser's rows in memory: fifteen rows that are written on, and what has been told and stands. Plain facts, no program. -/
import Derived.Test.YtkijckccfookeaaGreatDoorFRead
import Derived.Test.YtkijckccfookeaaGreatDoorM03
import Derived.Test.YtkijckccfookeaaGreatDoorM00
import Derived.Test.YtkijckccfookeaaGreatDoorM01
import Derived.Test.YtkijckccfookeaaGreatDoorProg
import Derived.WalkKit
import Derived.RegionTactic
import Derived.Lib.MinMax
import Derived.Lib.Strings
import Derived.LoopTactic
import Derived.WalkSpells
namespace Go.Proofs.YtkijckccfookeaaGreatDoor
open Go.RowKit

/-- a row that is written on: its slice, how many elements, its cells -/
structure RV where
  v : Value
  n : Nat
  xs : List Value
def RV.nil : RV := ⟨.slice none 0 0, 0, []⟩
/-- the types of the rows' elements: the font's eight, the last glyph's six, the last lookup's one -/
def kT : Nat → TypeId
  | 0 => 59
  | 1 => 93
  | 2 => 72
  | 3 => 97
  | 4 => 99
  | 5 => 104
  | 6 => 57
  | 7 => 3
  | 8 => 139
  | 9 => 3
  | 10 => 87
  | 11 => 89
  | 12 => 91
  | 13 => 61
  | _ => 76
def kS : Nat → Nat
  | 0 => 9
  | 1 => 2
  | 2 => 3
  | 3 => 2
  | 4 => 4
  | 5 => 1
  | 6 => 1
  | 7 => 1
  | 8 => 3
  | 9 => 1
  | 10 => 3
  | 11 => 4
  | 12 => 4
  | 13 => 2
  | _ => 6
/-- the types of a font's blocks -/
def dataT (t : TypeId) : Bool := [59, 93, 72, 97, 99, 104, 57, 3, 139, 87, 89, 91, 61, 76, 101, 95, 22].contains t
theorem kT_data (j : Nat) : dataT (kT j) = true := by
  unfold kT
  split <;> decide
theorem kS_pos (j : Nat) : 0 < kS j := by
  unfold kS
  split <;> decide
abbrev Rows := Nat → RV
def upd (rv : Rows) (i : Nat) (r : RV) : Rows := fun j => if j = i then r else rv j
theorem upd_same (rv : Rows) (i : Nat) (r : RV) : upd rv i r i = r := by simp [upd]
theorem upd_other (rv : Rows) {i j : Nat} (r : RV) (h : j ≠ i) : upd rv i r j = rv j := by simp [upd, h]
structure Live (w : World) (Bd : Nat) (rv : Rows) : Prop where
  own : ∀ j, j < 15 → w.ownsRow Bd (kT j) (kS j) (rv j).v (rv j).n (rv j).xs
  apart : ∀ i j, i < 15 → j < 15 → i ≠ j → ∀ g, (rv i).v.ownBlock = some g → (rv j).v.ownBlock ≠ some g
/-- what has been told and is written no more -/
def Fz (w : World) (rv : Rows) : Bs := fun b => ∃ cs t, Bk w b t cs ∧ dataT t = true ∧ ∀ j, j < 15 → (rv j).v.ownBlock ≠ some b
/-- from one world to a later one: what stands, stands -/
structure Tr (w : World) (rv : Rows) (w' : World) (rv' : Rows) : Prop where
  same : Same (Fz w rv) w w'
  sub : ∀ b, Fz w rv b → Fz w' rv' b
theorem Tr.refl (w : World) (rv : Rows) : Tr w rv w rv := ⟨Same.refl _ _, fun _ h => h⟩
theorem Tr.trans {a b c : World} {x y z : Rows} (h : Tr a x b y) (k : Tr b y c z) : Tr a x c z :=
  ⟨fun g hg => (k.same g (h.sub g hg)).trans (h.same g hg), fun g hg => k.sub g (h.sub g hg)⟩
theorem Tr.rel {α : Type} {R : Rel α} (ok : R.Ok) {w w' : World} {rv rv' : Rows} {cs : List Value} {x : α} (h : Tr w rv w' rv') (k : R w (Fz w rv) cs x) : R w' (Fz w' rv') cs x := ok.mono (ok.keep k h.same) h.sub
theorem Tr.sl {α : Type} {R : Rel α} (ok : R.Ok) {size : Nat} {w w' : World} {rv rv' : Rows} {A : Option Addr} {xs : List α} (h : Tr w rv w' rv') (k : Sl R size w (Fz w rv) A xs) : Sl R size w' (Fz w' rv') A xs := (k.keep ok h.same).mono ok h.sub
theorem Tr.fl {α : Type} {R : Rel α} (ok : R.Ok) {size : Nat} {w w' : World} {rv rv' : Rows} {cs : List Value} {xs : List α} (h : Tr w rv w' rv') (k : Fl R size w (Fz w rv) cs xs) : Fl R size w' (Fz w' rv') cs xs := (k.keep ok h.same).mono ok h.sub
theorem ownBlock_bk {w : World} {base : Nat} {e : TypeId} {size : Nat} {v : Value} {n : Nat} {xs : List Value} (h : w.ownsRow base e size v n xs) {g : Nat} (hg : v.ownBlock = some g) : ∃ cur, Bk w g e cur := own_bk h g hg
theorem bk_one {w : World} {g : Nat} {t t' : TypeId} {cs cs' : Array Value} (h : Bk w g t cs) (k : Bk w g t' cs') : t = t' ∧ cs = cs' := by
  unfold Bk at h k
  rw [h] at k
  injection k with k
  injection k with k1 k2
  exact ⟨k2, k1⟩
/-- all that is no block of the rows', and all else that was, is as it was -/
theorem Live.keep {w w' : World} {Bd : Nat} {rv : Rows} (h : Live w Bd rv) (hk : ∀ j, j < 15 → ∀ g, (rv j).v.ownBlock = some g → w'.heap[g]? = w.heap[g]?) : Live w' Bd rv :=
  ⟨fun j hj => by
    obtain ⟨h1, h2⟩ := h.own j hj
    refine ⟨h1, ?_⟩
    rcases h2 with h2 | ⟨g, cap, cur, e, hb, hg, rest⟩
    · exact .inl h2
    · exact .inr ⟨g, cap, cur, e, hb, (hk j hj g (by rw [e]; rfl)).trans hg, rest⟩, h.apart⟩
theorem Live.below {w w' : World} {Bd : Nat} {rv : Rows} (h : Live w Bd rv) (hb : Below w.heap.size w w') : Live w' Bd rv :=
  h.keep fun j hj g hg => hb.block g ((h.own j hj).lt g hg).2
theorem Tr.below {w w' : World} {rv : Rows} (hb : Below w.heap.size w w') : Tr w rv w' rv :=
  ⟨fun b ⟨cs, t, h1, _⟩ => hb.block b h1.lt, fun b ⟨cs, t, h1, h2, h3⟩ => ⟨cs, t, (hb.block b h1.lt).trans h1, h2, h3⟩⟩
/-- a block that is none of the font's is written -/
theorem Live.other {w w' : World} {Bd : Nat} {rv : Rows} (h : Live w Bd rv) {row : Option Nat} (hg : w.grownBy w' row) (hr : ∀ g, row = some g → ∀ t cs, Bk w g t cs → dataT t = false) : Live w' Bd rv :=
  h.keep fun j hj g hgj => hg.block g ((h.own j hj).lt g hgj).2 (fun e => by
    obtain ⟨cur, hb⟩ := ownBlock_bk (h.own j hj) hgj
    have := hr g e.symm _ _ hb
    rw [kT_data] at this
    cases this)
theorem Tr.other {w w' : World} {rv : Rows} {row : Option Nat} (hg : w.grownBy w' row) (hr : ∀ g, row = some g → ∀ t cs, Bk w g t cs → dataT t = false) : Tr w rv w' rv := by
  have key : ∀ b, Fz w rv b → w'.heap[b]? = w.heap[b]? := fun b ⟨cs, t, h1, h2, _⟩ => hg.block b h1.lt (fun e => by
    have := hr b e.symm _ _ h1
    rw [h2] at this
    cases this)
  exact ⟨key, fun b hb => by
    obtain ⟨cs, t, h1, h2, h3⟩ := hb
    exact ⟨cs, t, (key b ⟨cs, t, h1, h2, h3⟩).trans h1, h2, h3⟩⟩
/-- row i is written on -/
theorem Live.row {w w' : World} {Bd : Nat} {rv : Rows} (h : Live w Bd rv) {i : Nat} (hi : i < 15) {r : RV} (hg : w.grownBy w' (rv i).v.ownBlock) (ho : w'.ownsRow Bd (kT i) (kS i) r.v r.n r.xs)
    (hl : r.v.ownBlock = (rv i).v.ownBlock ∨ ∀ g, r.v.ownBlock = some g → w.heap.size ≤ g) : Live w' Bd (upd rv i r) := by
  have hne : ∀ j, j < 15 → j ≠ i → (rv j).v.ownBlock = none ∨ (rv j).v.ownBlock ≠ (rv i).v.ownBlock := fun j hj hji => by
    cases hb : (rv j).v.ownBlock with
    | none => exact .inl rfl
    | some g => exact .inr (fun e => h.apart j i hj hi hji g hb e.symm)
  have hnew : ∀ j, j < 15 → j ≠ i → ∀ g, (rv j).v.ownBlock = some g → r.v.ownBlock ≠ some g := fun j hj hji g hb e => by
    rcases hl with hl | hl
    · rw [hl] at e
      exact h.apart j i hj hi hji g hb e
    · have := hl g e
      have := ((h.own j hj).lt g hb).2
      omega
  refine ⟨fun j hj => ?_, fun a b ha hb hab g => ?_⟩
  · by_cases hji : j = i
    · subst hji
      rw [upd_same]
      exact ho
    · rw [upd_other _ _ hji]
      exact (h.own j hj).kept hg (hne j hj hji)
  · by_cases hai : a = i
    · subst hai
      rw [upd_same, upd_other _ _ (Ne.symm hab)]
      intro e1 e2
      exact hnew b hb (Ne.symm hab) g e2 e1
    · rw [upd_other _ _ hai]
      by_cases hbi : b = i
      · subst hbi
        rw [upd_same]
        exact hnew a ha hai g
      · rw [upd_other _ _ hbi]
        exact h.apart a b ha hb hab g
theorem Tr.row {w w' : World} {rv : Rows} {i : Nat} (hi : i < 15) {r : RV} (hg : w.grownBy w' (rv i).v.ownBlock) (hl : r.v.ownBlock = (rv i).v.ownBlock ∨ ∀ g, r.v.ownBlock = some g → w.heap.size ≤ g) : Tr w rv w' (upd rv i r) := by
  have key : ∀ b, Fz w rv b → w'.heap[b]? = w.heap[b]? := fun b ⟨cs, t, h1, h2, h3⟩ => hg.block b h1.lt (fun e => h3 i hi e.symm)
  refine ⟨key, fun b hb => ?_⟩
  obtain ⟨cs, t, h1, h2, h3⟩ := hb
  refine ⟨cs, t, (key b ⟨cs, t, h1, h2, h3⟩).trans h1, h2, fun j hj => ?_⟩
  by_cases hji : j = i
  · subst hji
    rw [upd_same]
    rcases hl with hl | hl
    · rw [hl]
      exact h3 j hi
    · intro e
      have := hl b e
      have := h1.lt
      omega
  · rw [upd_other _ _ hji]
    exact h3 j hj
/-- a row is begun anew: what it was stands -/
theorem Live.drop {w : World} {Bd : Nat} {rv : Rows} (h : Live w Bd rv) (i : Nat) : Live w Bd (upd rv i RV.nil) := by
  refine ⟨fun j hj => ?_, fun a b ha hb hab g => ?_⟩
  · by_cases hji : j = i
    · subst hji
      rw [upd_same]
      exact World.ownsRow_nil w Bd _ _
    · rw [upd_other _ _ hji]
      exact h.own j hj
  · by_cases hai : a = i
    · subst hai
      rw [upd_same]
      intro e
      cases e
    · rw [upd_other _ _ hai]
      by_cases hbi : b = i
      · subst hbi
        rw [upd_same]
        intro _ e
        cases e
      · rw [upd_other _ _ hbi]
        exact h.apart a b ha hb hab g
theorem Tr.drop (w : World) (rv : Rows) (i : Nat) : Tr w rv w (upd rv i RV.nil) :=
  ⟨Same.refl _ _, fun b ⟨cs, t, h1, h2, h3⟩ => ⟨cs, t, h1, h2, fun j hj => by
    by_cases hji : j = i
    · subst hji; rw [upd_same]; intro e; cases e
    · rw [upd_other _ _ hji]; exact h3 j hj⟩⟩
/-- a row of the call's own, read -/
theorem Sl.of_own' {α : Type} {R : Rel α} {size : Nat} {w : World} {S : Bs} {cells : List Value} {xs : List α} {A : Option Addr} {base n c : Nat} {e : TypeId} (h : w.ownsRow base e size (.slice A n c) n cells) (hf : Fl R size w S cells xs) (hS : ∀ g, (Value.slice A n c).ownBlock = some g → S g) (hsz : 0 < size) : Sl R size w S A xs := by
  refine ⟨cells, hf, fun h0 => ?_⟩
  rcases h.2 with ⟨h1, h2⟩ | ⟨g, cap, cur, h1, hb, hh, hn, -⟩
  · have h3 := h.1
    have h4 := hf.1
    subst h2
    simp only [Nat.zero_mul, List.length_eq_zero_iff] at h3
    subst h3
    have := Nat.mul_pos h0 hsz
    rw [← h4] at this
    simp at this
  · simp only [Value.slice.injEq, true_and] at h1
    obtain ⟨rfl, rfl⟩ := h1
    refine ⟨g, 0, rfl, hS g rfl, fun j u hu => ?_⟩
    have := h.cells (g := g) rfl j u hu
    rwa [addr_add] at this
theorem Live.fz_drop {w : World} {Bd : Nat} {rv : Rows} (h : Live w Bd rv) {i : Nat} (hi : i < 15) : ∀ g, (rv i).v.ownBlock = some g → Fz w (upd rv i RV.nil) g := by
  intro g hg
  obtain ⟨cur, hb⟩ := ownBlock_bk (h.own i hi) hg
  refine ⟨cur, kT i, hb, kT_data i, fun j hj => ?_⟩
  by_cases hji : j = i
  · subst hji; rw [upd_same]; intro e; cases e
  · rw [upd_other _ _ hji]
    exact h.apart i j hi hj (Ne.symm hji) g hg
/-- a cell of a row is written -/
theorem own_set {w : World} {base : Nat} {e : TypeId} {size n c g : Nat} {xs : List Value} (h : w.ownsRow base e size (.slice (some ⟨g, 0, none⟩) n c) n xs) (i : Nat) (u : Value) :
    (w.setCell ⟨g, i, none⟩ u).ownsRow base e size (.slice (some ⟨g, 0, none⟩) n c) n (xs.set i u) := by
  refine ⟨by simpa using h.1, ?_⟩
  rcases h.2 with ⟨h1, h2⟩ | ⟨g', cap, cur, h1, hb, hh, hn, hm, hs, ht⟩
  · cases h1
  · simp only [Value.slice.injEq, Option.some.injEq, Addr.mk.injEq, and_true, true_and] at h1
    obtain ⟨rfl, rfl⟩ := h1
    refine .inr ⟨g, c, cur.setIfInBounds i u, rfl, hb, Bk.set hh i u, hn, hm, by simpa using hs, ?_⟩
    rw [Array.toList_setIfInBounds, List.take_set, ht]
theorem grown_set (w : World) (p : Addr) (u : Value) : w.grownBy (w.setCell p u) (some p.block) :=
  ⟨rfl, rfl, rfl, by simp [World.setCell], fun k _ hne => Below.heap_setCell w p u k (fun e => hne (by rw [e]))⟩
theorem own_slice {w : World} {base : Nat} {e : TypeId} {size : Nat} {v : Value} {n : Nat} {xs : List Value} (h : w.ownsRow base e size v n xs) : ∃ A c, v = .slice A n c := by
  rcases h.2 with ⟨rfl, rfl⟩ | ⟨g, cap, cur, rfl, _⟩
  · exact ⟨none, 0, rfl⟩
  · exact ⟨_, _, rfl⟩
end Go.Proofs.YtkijckccfookeaaGreatDoor
/- The contracts of fleuronref05.blank, digit, letter, fleuronlaw05.few. -/
namespace Go.Proofs.YtkijckccfookeaaGreatDoor
open Go.RowKit

def digitB (c : UInt8) : Bool := decide (48 ≤ c.toNat) && decide (c.toNat ≤ 57)
def letterB (c : UInt8) : Bool := (decide (65 ≤ c.toNat) && decide (c.toNat ≤ 90)) || (decide (97 ≤ c.toNat) && decide (c.toNat ≤ 122)) || c == 95 || c == 46
theorem u8_eq (c d : UInt8) : (c == d) = decide (c.toNat = d.toNat) := by
  rw [Bool.eq_iff_iff]; simp [UInt8.toNat_inj]

theorem extract_list (s : List UInt8) (a b : Nat) : (ByteArray.mk s.toArray).extract a b = ⟨((s.take b).drop a).toArray⟩ := by
  apply ByteArray.ext
  rw [ByteArray.data_extract]
  apply Array.ext'
  simp [List.extract_eq_take_drop, List.drop_take]

theorem bool_ret {x y : Bool} (h : x = true ↔ y = true) : Ending.returned (.bool x) = .returned (.bool y) := by rw [Bool.eq_iff_iff.2 h]
end Go.Proofs.YtkijckccfookeaaGreatDoor
/- Plain Lean: what number a text is. -/
namespace Go.Proofs.YtkijckccfookeaaGreatDoor
open Go.RowKit

/-- what digits say -/
def valB (d : B) : Nat := d.foldl (fun n c => 10 * n + (c.toNat - 48)) 0
def numD (d : B) : Bool := d.all digitB && decide (1 ≤ d.length ∧ d.length ≤ 9)
/-- behind a sign, if there is one -/
def unsign (s : B) : B := match s with | 45 :: r => r | s => s
def signed (s : B) : Bool := match s with | 45 :: _ => true | _ => false
def numV (s : B) : Int := if numD (unsign s) then (if signed s then -(valB (unsign s) : Int) else (valB (unsign s) : Int)) else 0
def numOk (s : B) : Bool := numD (unsign s)
theorem valB_snoc (d : B) (c : UInt8) : valB (d ++ [c]) = 10 * valB d + (c.toNat - 48) := by simp [valB]
theorem pow_step (k : Nat) : 10 ^ (k + 1) = 10 * 10 ^ k := by rw [Nat.pow_succ, Nat.mul_comm]
theorem valB_lt (d : B) (h : ∀ c ∈ d, digitB c = true) : valB d < 10 ^ d.length := by
  suffices h : ∀ k, k ≤ d.length → valB (d.take k) < 10 ^ k by simpa using h d.length (Nat.le_refl _)
  intro k
  induction k with
  | zero => intro _; simp [valB]
  | succ k ih =>
    intro hk
    have e : d.take (k + 1) = d.take k ++ [d[k]] := by rw [List.take_succ_eq_append_getElem (by omega)]
    have h1 := ih (by omega)
    have h2 := h d[k] (List.getElem_mem _)
    simp [digitB] at h2
    rw [e, valB_snoc, pow_step]
    omega
theorem numD_no (d : B) (c : UInt8) (h : c ∈ d) (hc : digitB c = false) : numD d = false := by
  rw [numD, Bool.and_eq_false_iff]
  left
  rw [List.all_eq_false]
  exact ⟨c, h, by simp [hc]⟩
theorem numD_len (d : B) (h : d.length < 1 ∨ 9 < d.length) : numD d = false := by
  rw [numD, Bool.and_eq_false_iff]
  right
  simp
  omega
theorem numD_yes (d : B) (h : ∀ c ∈ d, digitB c = true) (h1 : 1 ≤ d.length) (h2 : d.length ≤ 9) : numD d = true := by
  rw [numD, Bool.and_eq_true, List.all_eq_true]
  exact ⟨h, by simp; omega⟩
theorem unsign_cases (s : B) : (∃ r, s = 45 :: r ∧ unsign s = r ∧ signed s = true) ∨ (unsign s = s ∧ signed s = false ∧ ∀ r, s ≠ 45 :: r) := by
  unfold unsign signed
  split
  · exact .inl ⟨_, rfl, rfl, rfl⟩
  · rename_i h
    exact .inr ⟨rfl, rfl, h⟩
theorem digitB_iff (c : UInt8) : digitB c = true ↔ 48 ≤ c.toNat ∧ c.toNat ≤ 57 := by simp [digitB]
end Go.Proofs.YtkijckccfookeaaGreatDoor
/- The contract of fleuronref05.Name. -/
namespace Go.Proofs.YtkijckccfookeaaGreatDoor
open Go.RowKit

def nameAt (i : Nat) (c : UInt8) : Bool := letterB c || (decide (i ≠ 0) && (digitB c || c == 45))
def nameOk (s : B) : Prop := ∀ i c, s[i]? = some c → nameAt i c = true
def nameB (s : B) : Bool := decide (0 < s.length ∧ s.length ≤ 16) && (List.range s.length).all (fun i => nameAt i (s[i]?.getD 0))

theorem byte_at (s : B) (k : Nat) (c : UInt8) (h : s[k]? = some c) (hk : k < (ByteArray.mk s.toArray).size) : (ByteArray.mk s.toArray)[k]'hk = c := by
  obtain ⟨h1, h2⟩ := List.getElem?_eq_some_iff.1 h
  rw [← h2]
  rfl
theorem nameB_no (s : B) (k : Nat) (c : UInt8) (h : s[k]? = some c) (hn : nameAt k c = false) : nameB s = false := by
  rw [nameB, Bool.and_eq_false_iff]
  right
  obtain ⟨h1, h2⟩ := List.getElem?_eq_some_iff.1 h
  rw [List.all_eq_false]
  exact ⟨k, by simpa using h1, by simp [h, hn]⟩
theorem nameB_yes (s : B) (h : ∀ j c, j < s.length → s[j]? = some c → nameAt j c = true) : nameB s = decide (0 < s.length ∧ s.length ≤ 16) := by
  rw [nameB]
  have : ((List.range s.length).all fun i => nameAt i (s[i]?.getD 0)) = true := by
    rw [List.all_eq_true]
    intro i hi
    have hi' : i < s.length := by simpa using hi
    rw [List.getElem?_eq_getElem hi']
    exact h i _ hi' (List.getElem?_eq_getElem hi')
  rw [this, Bool.and_true]

theorem nameAt_no {k : Nat} {c : UInt8} (h1 : ¬ letterB c = true) (h2 : k = 0) : nameAt k c = false := by simp [nameAt, h1, h2]
theorem nameAt_no2 {k : Nat} {c : UInt8} (h1 : ¬ letterB c = true) (h2 : ¬ digitB c = true) (h3 : ((k : Int) == 0) = true ∨ ((c.toNat : Int) != 45) = true) : nameAt k c = false := by
  simp only [nameAt, u8_eq, Bool.or_eq_false_iff, Bool.and_eq_false_iff]
  refine ⟨by simpa using h1, ?_⟩
  rcases h3 with h3 | h3
  · left; simp at h3; simp [h3]
  · right; simp at h3 h2; refine ⟨h2, ?_⟩; simp; omega
theorem nameAt_y {k : Nat} {c : UInt8} (h3 : ((k : Int) == 0) = false ∧ ((c.toNat : Int) != 45) = false) : nameAt k c = true := by
  obtain ⟨h1, h2⟩ := h3
  simp at h1 h2
  have : c.toNat = 45 := by omega
  simp [nameAt, u8_eq, this, h1]
theorem nameAt_high {k : Nat} {c : UInt8} (h : 128 ≤ c.toNat) : nameAt k c = false := by
  simp [nameAt, letterB, digitB, u8_eq]
  omega
theorem nameB_len (s : B) (h : s.length < 1 ∨ 16 < s.length) : nameB s = false := by
  rw [nameB, Bool.and_eq_false_iff]
  left
  simp
  omega
theorem nameAt_iff (k : Nat) (c : UInt8) : nameAt k c = true ↔ (65 ≤ c.toNat ∧ c.toNat ≤ 90) ∨ (97 ≤ c.toNat ∧ c.toNat ≤ 122) ∨ c.toNat = 95 ∨ c.toNat = 46 ∨ (k ≠ 0 ∧ ((48 ≤ c.toNat ∧ c.toNat ≤ 57) ∨ c.toNat = 45)) := by
  simp [nameAt, letterB, digitB, u8_eq]
  omega
end Go.Proofs.YtkijckccfookeaaGreatDoor
/- Plain Lean: what parse.Font makes of a source, statement by statement. -/
namespace Go.Proofs.YtkijckccfookeaaGreatDoor

/-- where the reading of a source stands: the font so far, whether a unit stood, the classes -/
structure PS where
  f : Fnt
  unit : Bool
  cls : List (B × List Int)
def f0 : Fnt := ⟨0, [], [], [], [], [], [], [], []⟩
def ps0 : PS := ⟨f0, false, []⟩
abbrev Gl := List (B × Nat)
/-- the names of the glyph statements, each with the number of its first one -/
def gnames : Nat → List (List B) → Gl
  | _, [] => []
  | n, l :: ls =>
    match l with
    | w :: r => if w = sGlyph then (match r with | v :: _ => if nameB v then [(v, n)] else [] | [] => []) ++ gnames (n + 1) ls else gnames n ls
    | [] => gnames n ls
theorem gnames_nil (n : Nat) (L : List (List B)) : gnames n ([] :: L) = gnames n L := rfl
def gname1 (n : Nat) (r : List B) : Gl := match r with | v :: _ => if nameB v then [(v, n)] else [] | [] => []
theorem gnames_cons (n : Nat) (w : B) (r : List B) (L : List (List B)) : gnames n ((w :: r) :: L) = if w = sGlyph then gname1 n r ++ gnames (n + 1) L else gnames n L := by
  rw [gnames.eq_def]
  cases r <;> rfl
/-- the first error stays -/
def eNum (e : Int) (t : B) : Int := if e = 0 ∧ numOk t = false then 21 else e
def eName (e : Int) (t : B) : Int := if e = 0 ∧ nameB t = false then 23 else e
def eGl (gl : Gl) (e : Int) (t : B) : Int := if e = 0 ∧ (gl.lookup t).isNone = true then 23 else e
def vGl (gl : Gl) (t : B) : Int := ((gl.lookup t).getD 0 : Nat)
def eNums (e : Int) (l : List B) : Int := l.foldl eNum e
def eGls (gl : Gl) (e : Int) (l : List B) : Int := l.foldl (eGl gl) e
/-- a text ahead of the first sign, and behind it -/
def cutL (c : UInt8) (t : B) : B := t.takeWhile (· != c)
def cutR (c : UInt8) (t : B) : B := (t.dropWhile (· != c)).drop 1
def opN (t : B) : Int := if t ∈ opNames then (opNames.findIdx (· == t) : Int) + 1 else 0
def kindN (l : List B) (t : B) : Int := if t ∈ l then (l.findIdx (· == t) : Int) + 1 else 0
def eOp (e : Int) (t : B) : Int :=
  if t.contains 58 then eNum (if e = 0 ∧ opN (cutL 58 t) = 0 then 23 else e) (cutR 58 t) else if e = 0 ∧ opN (cutL 58 t) = 0 then 23 else e
def vOp (t : B) : Ins := ⟨opN (cutL 58 t), if t.contains 58 then numV (cutR 58 t) else 0⟩
def opsOk (l : List B) : Bool := l.all (fun t => t.count 58 ≤ 1)
/-- points: one comma, a star at most, at the end -/
def ptOk (t : B) : Bool := t.count 44 == 1 && (!t.contains 42 || t.idxOf 42 == t.length - 1)
def unStar (t : B) : B := if t.getLast? = some 42 then t.dropLast else t
def ePt (e : Int) (t : B) : Int := eNum (eNum e (cutL 44 (unStar t))) (cutR 44 (unStar t))
def vPt (t : B) : Pt := ⟨numV (cutL 44 (unStar t)), numV (cutR 44 (unStar t)), t.getLast? != some 42⟩
def callsOk (l : List B) : Bool := l.all (fun t => t.count 58 == 1)
def eCall (e : Int) (t : B) : Int := eNum (eNum e (cutL 58 t)) (cutR 58 t)
def vCall (t : B) : Call := ⟨numV (cutL 58 t), numV (cutR 58 t)⟩
/-- sets of texts between brackets -/
def setsGoT : Bool → List B → List (List B) → List B → Option (List (List B))
  | op, _, told, [] => if op then none else some told
  | op, row, told, w :: r =>
    if w = [91] then (if op then none else setsGoT true [] told r)
    else if w = [93] then (if op then setsGoT false [] (told ++ [row]) r else none)
    else if op then setsGoT true (row ++ [w]) told r
    else setsGoT false [] (told ++ [[w]]) r
def setsT (ws : List B) : Option (List (List B)) := setsGoT false [] [] ws
/-- one word of a set -/
def setOne (gl : Gl) (cls : List (B × List Int)) (t : B) : Except Int (List Int) :=
  match t with
  | 64 :: r => match cls.lookup r with | some c => .ok c | none => .error 23
  | _ => match gl.lookup t with | some n => .ok [(n : Int)] | none => .error 23
def setGo (gl : Gl) (cls : List (B × List Int)) : List Int → List B → Except Int (List Int)
  | acc, [] => .ok acc
  | acc, t :: r => match setOne gl cls t with
    | .error e => .error e
    | .ok c => if 1000 < (acc ++ c).length then .error 2 else setGo gl cls (acc ++ c) r
def rowsGo (gl : Gl) (cls : List (B × List Int)) : List (List B) → Except Int (List (List Int))
  | [] => .ok []
  | l :: r => match setGo gl cls [] l with
    | .error e => .error e
    | .ok x => match rowsGo gl cls r with | .error e => .error e | .ok xs => .ok (x :: xs)
/-- the set of a row: rising, each once -/
def insS (n : Int) : List Int → List Int
  | [] => [n]
  | x :: r => if n < x then n :: x :: r else if n = x then x :: r else x :: insS n r
def setOf (l : List Int) : List Int := l.foldr insS []
abbrev Ans := Except Int PS
def fin (e : Int) (s : PS) : Ans := if e = 0 then .ok s else .error e
def rUnit (s : PS) (l : List B) : Ans :=
  match l with
  | [t] => if eNum 0 t ≠ 0 then .error (eNum 0 t) else if s.unit then .error 24 else .ok { s with unit := true, f := { s.f with unit := numV t } }
  | _ => .error 22
def rAxis (s : PS) (l : List B) : Ans :=
  match l with
  | [n, a, b, c] => fin (eNum (eNum (eNum (eName 0 n) a) b) c) { s with f := { s.f with axes := s.f.axes ++ [⟨n, numV a, numV b, numV c⟩] } }
  | _ => .error 22
def tentsOf : List Int → List Tent
  | a :: b :: c :: r => ⟨a, b, c⟩ :: tentsOf r
  | _ => []
def rRegion (s : PS) (l : List B) : Ans :=
  if l.length % 3 ≠ 0 then .error 22 else fin (eNums 0 l) { s with f := { s.f with regions := s.f.regions ++ [⟨tentsOf (l.map numV)⟩] } }
def rCvt (s : PS) (l : List B) : Ans := fin (eNums 0 l) { s with f := { s.f with cvt := s.f.cvt ++ l.map numV } }
def rFunc (s : PS) (l : List B) : Ans := if opsOk l = false then .error 22 else fin (l.foldl eOp 0) { s with f := { s.f with funcs := s.f.funcs ++ [l.map vOp] } }
def rClass (gl : Gl) (s : PS) (l : List B) : Ans :=
  match l with
  | [] => .error 22
  | n :: r => match setsT r with
    | some [row] => if eName 0 n ≠ 0 then .error (eName 0 n) else match setGo gl s.cls [] row with
      | .error e => .error e
      | .ok g => if (s.cls.lookup n).isSome then .error 24 else .ok { s with cls := s.cls ++ [(n, g)] }
    | _ => .error 22
def rGlyph (gl : Gl) (s : PS) (l : List B) : Ans :=
  match l with
  | n :: a :: r => if r = [] ∨ r = [sMark] then
      (if eNum (eName 0 n) a ≠ 0 then .error (eNum (eName 0 n) a) else if vGl gl n ≠ s.f.glyphs.length then .error 24
       else .ok { s with f := { s.f with glyphs := s.f.glyphs ++ [⟨n, numV a, !r.isEmpty, [], [], [], [], [], []⟩] } })
    else .error 22
  | _ => .error 22
/-- the last glyph, turned -/
def onLast (s : PS) (h : Glyph → Glyph) : PS := { s with f := { s.f with glyphs := s.f.glyphs.dropLast ++ (s.f.glyphs.getLast?.map h).toList } }
def rContour (s : PS) (l : List B) : Ans :=
  if s.f.glyphs = [] then .error 22 else if l = [] ∨ l.all ptOk = false then .error 22
  else fin (l.foldl ePt 0) (onLast s fun g => { g with points := g.points ++ l.map vPt, ends := g.ends ++ [((g.points.length + l.length : Nat) : Int) - 1] })
def rPart (gl : Gl) (s : PS) (l : List B) : Ans :=
  if s.f.glyphs = [] then .error 22 else
  match l with
  | [n, x, y] => fin (eNum (eNum (eGl gl 0 n) x) y) (onLast s fun g => { g with parts := g.parts ++ [⟨vGl gl n, numV x, numV y⟩] })
  | _ => .error 22
def rAnchor (s : PS) (l : List B) : Ans :=
  if s.f.glyphs = [] then .error 22 else
  match l with
  | [n, c, x, y] => if kindN anchorNames n = 0 then .error 22 else fin (eNums 0 [c, x, y]) (onLast s fun g => { g with anchors := g.anchors ++ [⟨kindN anchorNames n, numV c, numV x, numV y⟩] })
  | _ => .error 22
def rDelta (s : PS) (l : List B) : Ans :=
  if s.f.glyphs = [] then .error 22 else
  match l with
  | [r, p, x, y] => fin (eNums 0 [r, p, x, y]) (onLast s fun g => { g with deltas := g.deltas ++ [⟨numV r, numV p, numV x, numV y⟩] })
  | _ => .error 22
def rHint (s : PS) (l : List B) : Ans :=
  if s.f.glyphs = [] then .error 22 else if opsOk l = false then .error 22
  else fin (l.foldl eOp 0) (onLast s fun g => { g with hint := g.hint ++ l.map vOp })
def rChar (gl : Gl) (s : PS) (l : List B) : Ans :=
  match l with
  | [c, n] => fin (eGl gl (eNum 0 c) n) { s with f := { s.f with chars := s.f.chars ++ [⟨numV c, vGl gl n⟩] } }
  | _ => .error 22
def rFeature (s : PS) (l : List B) : Ans :=
  match l with
  | n :: r => fin (eNums (eName 0 n) r) { s with f := { s.f with features := s.f.features ++ [⟨n, r.map numV⟩] } }
  | [] => .error 22
def rLookup (s : PS) (l : List B) : Ans :=
  match l with
  | k :: r => if r = [] ∨ r = [sIgnore] then (if kindN kindNames k = 0 then .error 22 else .ok { s with f := { s.f with lookups := s.f.lookups ++ [⟨kindN kindNames k, !r.isEmpty, []⟩] } }) else .error 22
  | [] => .error 22
/-- a rule's words: up to the first slash, the second one, the sign, and behind it -/
def partsGo : Nat → List B → List (List B) → List B → Option (List (List B))
  | n, cur, told, [] => if n = 3 then some (told ++ [cur]) else none
  | n, cur, told, w :: r =>
    if w ≠ [47] ∧ w ≠ [62] then partsGo n (cur ++ [w]) told r
    else if (n < 2 ∧ w = [47]) ∨ (n = 2 ∧ w = [62]) then partsGo (n + 1) [] (told ++ [cur]) r else none
def partsT (l : List B) : Option (List (List B)) := partsGo 0 [] [] l
def areOut (kind : Int) (l : List B) : Bool := if kind = 4 then callsOk l else if kind = 6 then l.length == 1 else if kind = 7 ∨ kind = 8 then l.length == 0 else true
def onLastL (s : PS) (h : Lookup → Lookup) : PS := { s with f := { s.f with lookups := s.f.lookups.dropLast ++ (s.f.lookups.getLast?.map h).toList } }
/-- what comes in the place of each glyph of the set -/
def sortOut (written names : List Int) : Except Int (List Int) :=
  if ¬ written.Nodup then .error 24 else if names.length ≠ written.length then .error 22
  else .ok ((setOf written).map (fun g => names.getD (written.idxOf g) 0))
def rRule (gl : Gl) (s : PS) (l : List B) : Ans :=
  match s.f.lookups.getLast? with
  | none => .error 22
  | some lk => match partsT l with
    | some [p0, p1, p2, p3] => match setsT p0, setsT p1, setsT p2 with
      | some w0, some w1, some w2 =>
        if (lk.kind = 1 ∨ lk.kind = 5) ∧ w1.length ≠ 1 then .error 22 else if areOut lk.kind p3 = false then .error 22 else
        match rowsGo gl s.cls w0 with
        | .error e => .error e
        | .ok b => match rowsGo gl s.cls w1 with
          | .error e => .error e
          | .ok i => match rowsGo gl s.cls w2 with
            | .error e => .error e
            | .ok a =>
              let plain := lk.kind = 1 ∨ lk.kind = 2 ∨ lk.kind = 3 ∨ lk.kind = 5
              let e := if plain then eGls gl 0 p3 else if lk.kind = 4 then p3.foldl eCall 0 else if lk.kind = 6 then eNums 0 p3 else 0
              if e ≠ 0 then .error e else
              let out := if plain then p3.map (vGl gl) else []
              let r : Rule := ⟨b.map setOf, i.map setOf, a.map setOf, out, if lk.kind = 4 then p3.map vCall else [], if lk.kind = 6 then numV (p3.headD []) else 0⟩
              if lk.kind = 1 ∨ lk.kind = 5 then (match sortOut (i.headD []) out with
                | .error e => .error e
                | .ok o => .ok (onLastL s fun lk => { lk with rules := lk.rules ++ [{ r with out := o }] }))
              else .ok (onLastL s fun lk => { lk with rules := lk.rules ++ [r] })
      | _, _, _ => .error 22
    | _ => .error 22
/-- one statement -/
def stmt (gl : Gl) (s : PS) (l : List B) : Ans :=
  match l with
  | [] => .error 22
  | w :: r =>
    if w = sUnit then rUnit s r else if w = sAxis then rAxis s r else if w = sRegion then rRegion s r else if w = sCvt then rCvt s r
    else if w = sFunc then rFunc s r else if w = sClass then rClass gl s r else if w = sGlyph then rGlyph gl s r else if w = sContour then rContour s r
    else if w = sPart then rPart gl s r else if w = sAnchor then rAnchor s r else if w = sDelta then rDelta s r else if w = sHint then rHint s r
    else if w = sChar then rChar gl s r else if w = sLookup then rLookup s r else if w = sRule then rRule gl s r else if w = sFeature then rFeature s r
    else .error 22
/-- all statements: the state, or the line of the first that is wrong, and what is -/
def stmts (gl : Gl) : PS → List (Int × List B) → Except (Int × Int) PS
  | s, [] => .ok s
  | s, (n, l) :: r => match stmt gl s l with | .error e => .error (n, e) | .ok s' => stmts gl s' r
def linesT (src : B) : List (Int × List B) := (linesL src).map (fun l => ((l.head?.map (·.1)).getD 0, l.map (·.2.2)))
def parseL (src : B) : Except (Int × Int) Fnt := (stmts (gnames 0 ((linesT src).map (·.2))) ps0 (linesT src)).map (·.f)
end Go.Proofs.YtkijckccfookeaaGreatDoor
