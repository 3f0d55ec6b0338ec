/- The contract of fleuronref05.Name. -/
import Derived.Test.YtccnogdfnikioaaDoorLeaf
import Derived.LoopTactic
import Derived.WalkSpells
namespace Go.Proofs.YtccnogdfnikioaaDoor
open Go.RowKit

def nameAt (i : Nat) (c : UInt8) : Bool := letterB c || (decide (i ≠ 0) && (digitB c || c == 45))
def nameOk (s : B) : Prop := ∀ i c, s[i]? = some c → nameAt i c = true
def nameB (s : B) : Bool := decide (0 < s.length ∧ s.length ≤ 16) && (List.range s.length).all (fun i => nameAt i (s[i]?.getD 0))

theorem byte_at (s : B) (k : Nat) (c : UInt8) (h : s[k]? = some c) (hk : k < (ByteArray.mk s.toArray).size) : (ByteArray.mk s.toArray)[k]'hk = c := by
  obtain ⟨h1, h2⟩ := List.getElem?_eq_some_iff.1 h
  rw [← h2]
  rfl
theorem nameB_no (s : B) (k : Nat) (c : UInt8) (h : s[k]? = some c) (hn : nameAt k c = false) : nameB s = false := by
  rw [nameB, Bool.and_eq_false_iff]
  right
  obtain ⟨h1, h2⟩ := List.getElem?_eq_some_iff.1 h
  rw [List.all_eq_false]
  exact ⟨k, by simpa using h1, by simp [h, hn]⟩
theorem nameB_yes (s : B) (h : ∀ j c, j < s.length → s[j]? = some c → nameAt j c = true) : nameB s = decide (0 < s.length ∧ s.length ≤ 16) := by
  rw [nameB]
  have : ((List.range s.length).all fun i => nameAt i (s[i]?.getD 0)) = true := by
    rw [List.all_eq_true]
    intro i hi
    have hi' : i < s.length := by simpa using hi
    rw [List.getElem?_eq_getElem hi']
    exact h i _ hi' (List.getElem?_eq_getElem hi')
  rw [this, Bool.and_true]

theorem nameAt_no {k : Nat} {c : UInt8} (h1 : ¬ letterB c = true) (h2 : k = 0) : nameAt k c = false := by simp [nameAt, h1, h2]
theorem nameAt_no2 {k : Nat} {c : UInt8} (h1 : ¬ letterB c = true) (h2 : ¬ digitB c = true) (h3 : ((k : Int) == 0) = true ∨ ((c.toNat : Int) != 45) = true) : nameAt k c = false := by
  simp only [nameAt, u8_eq, Bool.or_eq_false_iff, Bool.and_eq_false_iff]
  refine ⟨by simpa using h1, ?_⟩
  rcases h3 with h3 | h3
  · left; simp at h3; simp [h3]
  · right; simp at h3 h2; refine ⟨h2, ?_⟩; simp; omega
theorem nameAt_y {k : Nat} {c : UInt8} (h3 : ((k : Int) == 0) = false ∧ ((c.toNat : Int) != 45) = false) : nameAt k c = true := by
  obtain ⟨h1, h2⟩ := h3
  simp at h1 h2
  have : c.toNat = 45 := by omega
  simp [nameAt, u8_eq, this, h1]
set_option maxHeartbeats 1000000 in
theorem refName_ok (w : World) (s : B) (hs : s.length ≤ 1000) : Calls Tryd.prog 26 #[.string ⟨s.toArray⟩] w fun e w' => e = .returned (.bool (nameB s)) ∧ w = w' := by
  go_enter Tryd.func26, Tryd.ntmps26
  go_wp2
  go_loop [3] (fun i => ∃ k : Nat, k ≤ s.length ∧ i = .int .i64 k ∧ ∀ j c, j < k → s[j]? = some c → nameAt j c = true) (fun i => s.length - (intOf i).toNat)
  case atStart => exact ⟨0, by omega, rfl, by omega⟩
  case round =>
    obtain ⟨k, hk, rfl, hall⟩ := hrel
    by_cases hlt : k < s.length
    · obtain ⟨c, hc⟩ : ∃ c, s[k]? = some c := ⟨_, List.getElem?_eq_getElem hlt⟩
      have hb := byte_at s k c hc hlt
      have Hc := Lib.hid hc
      clear hc
      have hend : Hid (nameAt k c = true → (∃ k' : Nat, k' ≤ s.length ∧ Value.int .i64 ((k : Int) + 1) = .int .i64 k' ∧ ∀ j c, j < k' → s[j]? = some c → nameAt j c = true) ∧ s.length - (intOf (.int .i64 ((k : Int) + 1))).toNat < s.length - (intOf (.int .i64 k)).toNat) := by
        intro hn
        refine ⟨⟨k + 1, by omega, by simp, fun j d hj hd => ?_⟩, by simp [intOf]; omega⟩
        by_cases hjk : j = k
        · subst hjk
          rw [Hc.out] at hd
          cases hd
          exact hn
        · exact hall j d (by omega) hd
      have Hall := Lib.hid hall
      clear hall
      go_wp2_with (first
        | (go_at_call 32; refine (letter_ok _ _).mono ?_; rintro e w' ⟨rfl, rfl⟩)
        | (go_at_call 31; refine (digit_ok _ _).mono ?_; rintro e w' ⟨rfl, rfl⟩))
      all_goals first
        | (go_ret; refine ⟨?_, rfl⟩; rw [nameB_no s k c Hc.out (by first | exact nameAt_no ‹_› ‹_› | exact nameAt_no2 ‹_› ‹_› ‹_›)]; rfl)
        | exact hend.out (nameAt_y ‹_›)
        | (refine hend.out ?_; clear hend; simp_all [nameAt, u8_eq]; done)
    · obtain rfl : k = s.length := by omega
      have hf := Lib.hid (nameB_yes s hall)
      clear hall
      go_wp2
      all_goals go_ret
      all_goals refine ⟨?_, rfl⟩
      all_goals rw [hf.out]
      all_goals refine bool_ret ?_
      all_goals simp
      all_goals omega
end Go.Proofs.YtccnogdfnikioaaDoor
