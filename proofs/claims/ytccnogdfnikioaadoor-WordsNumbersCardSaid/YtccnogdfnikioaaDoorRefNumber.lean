/- The contract of fleuronref05.Number. -/
import Derived.Test.YtccnogdfnikioaaDoorNumber
namespace Go.Proofs.YtccnogdfnikioaaDoor
open Go.RowKit

theorem valB_bound10 (d : B) (k : Nat) (hk : k ≤ 10) (h : ∀ j c, j < k → d[j]? = some c → digitB c = true) : valB (d.take k) < 10000000000 := by
  have h1 := valB_lt (d.take k) (fun c hc => by
    obtain ⟨i, hi⟩ := List.mem_iff_getElem?.1 hc
    rw [List.getElem?_take] at hi
    split at hi
    · exact h i c ‹_› hi
    · cases hi)
  have h2 : 10 ^ (d.take k).length ≤ 10 ^ 10 := Nat.pow_le_pow_right (by omega) (by rw [List.length_take]; omega)
  exact Nat.lt_of_lt_of_le h1 h2
set_option maxRecDepth 100000 in
set_option maxHeartbeats 4000000 in
theorem refNumber_ok (w : World) (s : B) (hs : s.length ≤ 1000000) : Calls Tryd.prog 25 #[.string ⟨s.toArray⟩] w (NumPost s w) := by
  have hpost : Hid ((numD (unsign s) = false → NumPost s w (.returned (.tuple #[.int .i64 0, .bool false])) w) ∧
      (numD (unsign s) = true → signed s = true → NumPost s w (.returned (.tuple #[.int .i64 (-(valB (unsign s) : Int)), .bool true])) w) ∧
      (numD (unsign s) = true → signed s = false → NumPost s w (.returned (.tuple #[.int .i64 (valB (unsign s) : Int), .bool true])) w)) := by
    refine ⟨fun h => ⟨?_, Below.refl _ _⟩, fun h h2 => ⟨?_, Below.refl _ _⟩, fun h h2 => ⟨?_, Below.refl _ _⟩⟩
    · simp [numV, numOk, h]
    · simp [numV, numOk, h, h2]
    · simp [numV, numOk, h, h2]
  have hway : (∃ r, s = 45 :: r ∧ unsign s = r ∧ signed s = true) ∨ (unsign s = s ∧ signed s = false ∧ (s = [] ∨ ∃ c r, s = c :: r ∧ c ≠ 45)) := by
    rcases unsign_cases s with h | ⟨h1, h2, h3⟩
    · exact .inl h
    · refine .inr ⟨h1, h2, ?_⟩
      cases s with
      | nil => exact .inl rfl
      | cons c r => exact .inr ⟨c, r, rfl, fun h => h3 r (by rw [h])⟩
  rcases hway with ⟨r, rfl, h1, h2⟩ | ⟨h1, h2, h3⟩
  · rw [h1, h2] at hpost
    have hrl : r.length ≤ 1000000 := by simp at hs; omega
    have hex2 : (ByteArray.mk (45 :: r).toArray).extract 1 (r.length + 1) = ⟨r.toArray⟩ := by rw [extract_list]; simp
    have hb0 := byte_at (45 :: r) 0 45 rfl (by show 0 < (45 :: r).length; simp)
    clear h1 h2 hs
    go_enter Tryd.func25, Tryd.ntmps25
    go_wp2
    go_loop [5, 6] (fun v i => ∃ k N : Nat, k ≤ r.length ∧ k ≤ 10 ∧ i = .int .i64 k ∧ v = .int .i64 (N : Int) ∧ Hid (N = valB (r.take k)) ∧ ∀ j c, j < k → r[j]? = some c → digitB c = true) (fun _ i => r.length - (intOf i).toNat)
    case atStart => exact ⟨0, 0, by omega, by omega, rfl, rfl, rfl, by omega⟩
    case round =>
      obtain ⟨k, N, hk, hk10, rfl, rfl, hN, hall⟩ := hrel
      have hvb : N ≤ 9999999999 := by have := valB_bound10 r k hk10 hall; rw [← hN.out] at this; omega
      by_cases hlt : k < r.length ∧ k < 10
      · obtain ⟨hlt, hl10⟩ := hlt
        obtain ⟨c, hc⟩ : ∃ c, r[k]? = some c := ⟨_, List.getElem?_eq_getElem hlt⟩
        have hb := byte_at r k c hc hlt
        have hc8 := c.toNat_lt
        cases hdg : digitB c with
        | true =>
          have hend : Hid (∀ v : Int, v = 10 * (N : Int) + ((c.toNat : Int) - 48) → ∃ k' N' : Nat, k' ≤ r.length ∧ k' ≤ 10 ∧ Value.int .i64 ((k : Int) + 1) = .int .i64 k' ∧ Value.int .i64 v = .int .i64 (N' : Int) ∧ Hid (N' = valB (r.take k')) ∧ ∀ j c, j < k' → r[j]? = some c → digitB c = true) := by
            intro v hv
            have h48 := (digitB_iff c).1 hdg
            refine ⟨k + 1, 10 * N + (c.toNat - 48), by omega, by omega, by simp, ?_, ?_, digits_snoc r k c hc hdg hall⟩
            · rw [hv]
              congr 1
              omega
            · show _ = _
              rw [valB_take r k c hc, hN.out]
          obtain ⟨q1, q2⟩ := (digitB_iff c).1 hdg
          clear hc hall
          go_wp2_with (go_at_call 31; refine (digit_ok _ c).mono ?_; rintro e w' ⟨rfl, rfl⟩)
          go_round
          case rel => exact hend.out _ (by omega)
          case measure => simp [intOf]; omega
        | false =>
          have hno := Lib.hid (numD_no r c (List.mem_of_getElem? hc) hdg)
          clear hc hall
          go_wp2_with (go_at_call 31; refine (digit_ok _ c).mono ?_; rintro e w' ⟨rfl, rfl⟩)
          go_ret2
          exact hpost.out.1 hno.out
      · by_cases hlen : r.length < 1 ∨ 9 < r.length
        · have hno := Lib.hid (numD_len r hlen)
          have hx : ¬ k < r.length ∨ (k < r.length ∧ ¬ k < 10) := by omega
          clear hall hlt
          rcases hlen with hlen | hlen
          · first | (exfalso; omega) | (go_wp2; go_ret2; exact hpost.out.1 hno.out)
          · rcases hx with hx | ⟨hx, hx2⟩
            · go_wp2
              go_ret2
              exact hpost.out.1 hno.out
            · go_wp2
              go_ret2
              exact hpost.out.1 hno.out
        · obtain rfl : k = r.length := by omega
          have h1 : 1 ≤ r.length := by omega
          have h9 : r.length ≤ 9 := by omega
          have hyes := Lib.hid (numD_yes r (digits_all r hall) h1 h9)
          have hN2 : Hid (valB r = N) := by show _ = _; rw [hN.out, List.take_length]
          have hp := Lib.hid (hpost.out.2.1 hyes.out (by simp))
          rw [hN2.out] at hp
          clear hall hlt hlen
          go_wp2
          go_ret2
          exact hp.out
  · rw [h1, h2] at hpost
    clear h1 h2
    rcases h3 with rfl | ⟨c0, r0, rfl, hc0⟩
    · have hno : Hid (numD [] = false) := rfl
      go_enter Tryd.func25, Tryd.ntmps25
      go_wp2
      go_loop [5, 6] (fun v i => i = .int .i64 0) (fun _ _ => 0)
      case atStart => rfl
      case round =>
        subst hrel
        go_wp2
        go_ret2
        exact hpost.out.1 hno.out
    · have hb0 := byte_at (c0 :: r0) 0 c0 rfl (by show 0 < (c0 :: r0).length; simp)
      have hne : ((c0.toNat : Int) == 45) = false := by
        simp
        intro h
        exact hc0 (UInt8.toNat_inj.1 (by show c0.toNat = 45; omega))
      have hlp : 0 < (c0 :: r0).length := by simp
      obtain ⟨ss, hss⟩ : ∃ ss, c0 :: r0 = ss := ⟨_, rfl⟩
      simp only [hss] at *
      clear hss
      go_enter Tryd.func25, Tryd.ntmps25
      go_wp2
      go_loop [5, 6] (fun v i => ∃ k N : Nat, k ≤ ss.length ∧ k ≤ 10 ∧ i = .int .i64 k ∧ v = .int .i64 (N : Int) ∧ Hid (N = valB (ss.take k)) ∧ ∀ j c, j < k → ss[j]? = some c → digitB c = true) (fun _ i => ss.length - (intOf i).toNat)
      case atStart => exact ⟨0, 0, by omega, by omega, rfl, rfl, rfl, by omega⟩
      case round =>
        obtain ⟨k, N, hk, hk10, rfl, rfl, hN, hall⟩ := hrel
        have hvb : N ≤ 9999999999 := by have := valB_bound10 ss k hk10 hall; rw [← hN.out] at this; omega
        by_cases hlt : k < ss.length ∧ k < 10
        · obtain ⟨hlt, hl10⟩ := hlt
          obtain ⟨c, hc⟩ : ∃ c, ss[k]? = some c := ⟨_, List.getElem?_eq_getElem hlt⟩
          have hb := byte_at ss k c hc hlt
          have hc8 := c.toNat_lt
          cases hdg : digitB c with
          | true =>
            have hend : Hid (∀ v : Int, v = 10 * (N : Int) + ((c.toNat : Int) - 48) → ∃ k' N' : Nat, k' ≤ ss.length ∧ k' ≤ 10 ∧ Value.int .i64 ((k : Int) + 1) = .int .i64 k' ∧ Value.int .i64 v = .int .i64 (N' : Int) ∧ Hid (N' = valB (ss.take k')) ∧ ∀ j c, j < k' → ss[j]? = some c → digitB c = true) := by
              intro v hv
              have h48 := (digitB_iff c).1 hdg
              refine ⟨k + 1, 10 * N + (c.toNat - 48), by omega, by omega, by simp, ?_, ?_, digits_snoc ss k c hc hdg hall⟩
              · rw [hv]
                congr 1
                omega
              · show _ = _
                rw [valB_take ss k c hc, hN.out]
            obtain ⟨q1, q2⟩ := (digitB_iff c).1 hdg
            clear hc hall
            go_wp2_with (go_at_call 31; refine (digit_ok _ c).mono ?_; rintro e w' ⟨rfl, rfl⟩)
            go_round
            case rel => exact hend.out _ (by omega)
            case measure => simp [intOf]; omega
          | false =>
            have hno := Lib.hid (numD_no ss c (List.mem_of_getElem? hc) hdg)
            clear hc hall
            go_wp2_with (go_at_call 31; refine (digit_ok _ c).mono ?_; rintro e w' ⟨rfl, rfl⟩)
            go_ret2
            exact hpost.out.1 hno.out
        · by_cases hlen : ss.length < 1 ∨ 9 < ss.length
          · have hno := Lib.hid (numD_len ss hlen)
            have hx : ¬ k < ss.length ∨ (k < ss.length ∧ ¬ k < 10) := by omega
            clear hall hlt
            rcases hlen with hlen | hlen
            · first | (exfalso; omega) | (go_wp2; go_ret2; exact hpost.out.1 hno.out)
            · rcases hx with hx | ⟨hx, hx2⟩
              · go_wp2
                go_ret2
                exact hpost.out.1 hno.out
              · go_wp2
                go_ret2
                exact hpost.out.1 hno.out
          · obtain rfl : k = ss.length := by omega
            have h1 : 1 ≤ ss.length := by omega
            have h9 : ss.length ≤ 9 := by omega
            have hyes := Lib.hid (numD_yes ss (digits_all ss hall) h1 h9)
            have hN2 : Hid (valB ss = N) := by show _ = _; rw [hN.out, List.take_length]
            have hp := Lib.hid (hpost.out.2.2 hyes.out (by simp))
            rw [hN2.out] at hp
            clear hall hlt hlen
            go_wp2
            go_ret2
            exact hp.out
end Go.Proofs.YtccnogdfnikioaaDoor
