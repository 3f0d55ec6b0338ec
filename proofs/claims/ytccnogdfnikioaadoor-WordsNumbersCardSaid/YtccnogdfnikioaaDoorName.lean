/- The contract of words.Name. -/
import Derived.Test.YtccnogdfnikioaaDoorRefName
namespace Go.Proofs.YtccnogdfnikioaaDoor
open Go.RowKit

theorem nameAt_high {k : Nat} {c : UInt8} (h : 128 ≤ c.toNat) : nameAt k c = false := by
  simp [nameAt, letterB, digitB, u8_eq]
  omega
theorem nameB_len (s : B) (h : s.length < 1 ∨ 16 < s.length) : nameB s = false := by
  rw [nameB, Bool.and_eq_false_iff]
  left
  simp
  omega
theorem nameAt_iff (k : Nat) (c : UInt8) : nameAt k c = true ↔ (65 ≤ c.toNat ∧ c.toNat ≤ 90) ∨ (97 ≤ c.toNat ∧ c.toNat ≤ 122) ∨ c.toNat = 95 ∨ c.toNat = 46 ∨ (k ≠ 0 ∧ ((48 ≤ c.toNat ∧ c.toNat ≤ 57) ∨ c.toNat = 45)) := by
  simp [nameAt, letterB, digitB, u8_eq]
  omega
theorem below_iter (w : World) (s : ByteArray) (k : Nat) : Below w.heap.size w (w.iter s k) := (Below.refl _ _).alloc (Nat.le_refl _) _
set_option maxHeartbeats 2000000 in
theorem name_ok (w : World) (s : B) : Calls Tryd.prog 22 #[.string ⟨s.toArray⟩] w fun e w' => e = .returned (.bool (nameB s)) ∧ Below w.heap.size w w' := by
  by_cases hl : s.length < 1 ∨ 16 < s.length
  · have hf := Lib.hid (nameB_len s hl)
    go_enter Tryd.func22, Tryd.ntmps22
    rcases hl with hl | hl
    · go_wp2
      go_ret
      exact ⟨by rw [hf.out]; rfl, Below.refl _ _⟩
    · go_wp2
      go_ret
      exact ⟨by rw [hf.out]; rfl, Below.refl _ _⟩
  · have h1 : 1 ≤ s.length := by omega
    have h2 : s.length ≤ 16 := by omega
    clear hl
    go_enter Tryd.func22, Tryd.ntmps22
    go_wp2
    go_loopw [3] (fun _ wr => ∃ k : Nat, wr = w.iter ⟨s.toArray⟩ k ∧ k ≤ s.length ∧ ∀ j c, j < k → s[j]? = some c → nameAt j c = true) (fun _ wr => s.length - wr.iterPos w.heap.size)
    case atStart => exact ⟨0, rfl, by omega, by omega⟩
    case round =>
      obtain ⟨k, rfl, hk, hall⟩ := hrel
      by_cases hlt : k < s.length
      · obtain ⟨c, hc⟩ : ∃ c, s[k]? = some c := ⟨_, List.getElem?_eq_getElem hlt⟩
        have hb := byte_at s k c hc hlt
        by_cases ha : c.toNat < 128
        · have hnx : ∀ ty, (Instr.next (.pointer (some ⟨w.heap.size, 0, none⟩)) true ty).run Tryd.prog (w.iter ⟨s.toArray⟩ k) = _ := fun ty => run_next_ascii w ⟨s.toArray⟩ k ty hlt (by rw [hb]; exact ha)
          rw [hb] at hnx
          have hend : Hid (nameAt k c = true → (∃ k' : Nat, w.iter ⟨s.toArray⟩ (k + 1) = w.iter ⟨s.toArray⟩ k' ∧ k' ≤ s.length ∧ ∀ j c, j < k' → s[j]? = some c → nameAt j c = true) ∧ s.length - (w.iter ⟨s.toArray⟩ (k + 1)).iterPos w.heap.size < s.length - (w.iter ⟨s.toArray⟩ k).iterPos w.heap.size) := by
            intro hn
            refine ⟨⟨k + 1, rfl, by omega, fun j d hj hd => ?_⟩, by simp; omega⟩
            by_cases hjk : j = k
            · subst hjk
              rw [hc] at hd
              cases hd
              exact hn
            · exact hall j d (by omega) hd
          have hno := Lib.hid (nameB_no s k c hc)
          clear hc hall hb
          go_wp2
          all_goals first
            | (refine hend.out ((nameAt_iff k c).2 ?_); simp only [beq_iff_eq, beq_eq_false_iff_ne, ne_eq] at *; omega)
            | (go_ret; refine ⟨?_, below_iter _ _ _⟩; rw [hno.out (by rw [← Bool.not_eq_true, nameAt_iff]; simp only [beq_eq_false_iff_ne, ne_eq] at *; omega)]; rfl)
            | trace_state
        · obtain ⟨hd1, -⟩ := decode_high ⟨s.toArray⟩ k hlt (by rw [hb]; omega)
          have hd2 := decode_le ⟨s.toArray⟩ k
          have hnx : ∀ ty, (Instr.next (.pointer (some ⟨w.heap.size, 0, none⟩)) true ty).run Tryd.prog (w.iter ⟨s.toArray⟩ k) = _ := fun ty => run_next_any w ⟨s.toArray⟩ k ty hlt
          have hno := Lib.hid (nameB_no s k c hc (nameAt_high (by omega)))
          clear hc hall hb
          generalize Utf8.decode ⟨s.toArray⟩ k = D at *
          obtain ⟨r, wd⟩ := D
          simp only at hd1 hd2 hnx
          go_wp2
          all_goals first
            | (exfalso; simp only [beq_iff_eq, beq_eq_false_iff_ne, ne_eq] at *; omega)
            | (go_ret; exact ⟨by rw [hno.out]; rfl, below_iter _ _ _⟩)
            | trace_state
      · obtain rfl : k = s.length := by omega
        have hf := Lib.hid ((nameB_yes s hall).trans (decide_eq_true ⟨h1, h2⟩))
        have hnx : ∀ ty, (Instr.next (.pointer (some ⟨w.heap.size, 0, none⟩)) true ty).run Tryd.prog (w.iter ⟨s.toArray⟩ s.length) = _ := fun ty => run_next_end w ⟨s.toArray⟩ s.length ty hlt
        clear hall
        go_wp2
        go_ret
        exact ⟨by rw [hf.out]; rfl, below_iter _ _ _⟩
end Go.Proofs.YtccnogdfnikioaaDoor
