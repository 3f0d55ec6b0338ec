/- The contracts of strings.CutPrefix at a sign, words.Number. -/
import Derived.Test.YtccnogdfnikioaaDoorPureNum
import Derived.Test.YtccnogdfnikioaaDoorName
namespace Go.Proofs.YtccnogdfnikioaaDoor
open Go.RowKit

set_option maxRecDepth 100000 in
set_option maxHeartbeats 2000000 in
theorem cut_ok (w : World) (s : B) (hs : s.length ≤ 1000000) : Calls Tryd.prog 30 #[.string ⟨s.toArray⟩, .string ⟨#[45]⟩] w fun e w' => e = .returned (.tuple #[.string ⟨(unsign s).toArray⟩, .bool (signed s)]) ∧ w = w' := by
  cases s with
  | nil =>
    go_enter Tryd.func30, Tryd.ntmps30
    go_wp2
    go_ret2
    exact ⟨rfl, rfl⟩
  | cons c r =>
    have hex : (ByteArray.mk (c :: r).toArray).extract 0 1 = ⟨[c].toArray⟩ := by rw [extract_list]; simp
    have hex2 : (ByteArray.mk (c :: r).toArray).extract 1 (r.length + 1) = ⟨r.toArray⟩ := by rw [extract_list]; simp
    by_cases hc : c = 45
    · subst hc
      go_enter Tryd.func30, Tryd.ntmps30
      go_wp2
      go_ret2
      exact ⟨rfl, rfl⟩
    · have hne : (c == 45) = false := by simpa using hc
      have hu : unsign (c :: r) = c :: r ∧ signed (c :: r) = false := by
        rcases unsign_cases (c :: r) with ⟨r', h, _⟩ | ⟨h1, h2, _⟩
        · injection h with h _
          exact absurd h hc
        · exact ⟨h1, h2⟩
      have Hu := Lib.hid hu
      clear hu hc
      go_enter Tryd.func30, Tryd.ntmps30
      go_wp2
      go_ret2
      rw [Hu.out.1, Hu.out.2]
      exact ⟨rfl, rfl⟩
theorem unsign_len (s : B) : (unsign s).length ≤ s.length := by
  rcases unsign_cases s with ⟨r, h1, h2, -⟩ | ⟨h, -⟩
  · rw [h2, h1]; simp
  · rw [h]; exact Nat.le_refl _
theorem valB_bound (d : B) (k : Nat) (hk : k ≤ 9) (h : ∀ j c, j < k → d[j]? = some c → digitB c = true) : valB (d.take k) < 1000000000 := by
  have h1 := valB_lt (d.take k) (fun c hc => by
    obtain ⟨i, hi⟩ := List.mem_iff_getElem?.1 hc
    rw [List.getElem?_take] at hi
    split at hi
    · exact h i c ‹_› hi
    · cases hi)
  have h2 : 10 ^ (d.take k).length ≤ 10 ^ 9 := Nat.pow_le_pow_right (by omega) (by rw [List.length_take]; omega)
  exact Nat.lt_of_lt_of_le h1 h2
theorem digitB_iff (c : UInt8) : digitB c = true ↔ 48 ≤ c.toNat ∧ c.toNat ≤ 57 := by simp [digitB]
theorem digits_snoc (d : B) (k : Nat) (c : UInt8) (hc : d[k]? = some c) (hd : digitB c = true) (h : ∀ j c, j < k → d[j]? = some c → digitB c = true) : ∀ j c, j < k + 1 → d[j]? = some c → digitB c = true := by
  intro j e hj he
  by_cases hjk : j = k
  · subst hjk
    rw [hc] at he
    cases he
    exact hd
  · exact h j e (by omega) he
theorem valB_take (d : B) (k : Nat) (c : UInt8) (hc : d[k]? = some c) : valB (d.take (k + 1)) = 10 * valB (d.take k) + (c.toNat - 48) := by
  obtain ⟨hk, hg⟩ := List.getElem?_eq_some_iff.1 hc
  rw [List.take_succ_eq_append_getElem hk, hg, valB_snoc]
theorem digits_all (d : B) (h : ∀ j c, j < d.length → d[j]? = some c → digitB c = true) : ∀ c ∈ d, digitB c = true := by
  intro c hc
  obtain ⟨i, hi⟩ := List.mem_iff_getElem?.1 hc
  exact h i c (List.getElem?_eq_some_iff.1 hi).1 hi
def NumPost (s : B) (w : World) (e : Ending) (w' : World) : Prop := e = .returned (.tuple #[.int .i64 (numV s), .bool (numOk s)]) ∧ Below w.heap.size w w'
set_option maxRecDepth 100000 in
set_option maxHeartbeats 4000000 in
theorem number_ok (w : World) (s : B) (hs : s.length ≤ 1000000) : Calls Tryd.prog 24 #[.string ⟨s.toArray⟩] w (NumPost s w) := by
  have hu := unsign_len s
  have hcut := cut_ok w s hs
  have hpost : Hid (∀ w', (numD (unsign s) = false → Below w.heap.size w w' → NumPost s w (.returned (.tuple #[.int .i64 0, .bool false])) w') ∧
      (numD (unsign s) = true → signed s = true → Below w.heap.size w w' → NumPost s w (.returned (.tuple #[.int .i64 (-(valB (unsign s) : Int)), .bool true])) w') ∧
      (numD (unsign s) = true → signed s = false → Below w.heap.size w w' → NumPost s w (.returned (.tuple #[.int .i64 (valB (unsign s) : Int), .bool true])) w')) := by
    intro w'
    refine ⟨fun h hb => ⟨?_, hb⟩, fun h h2 hb => ⟨?_, hb⟩, fun h h2 hb => ⟨?_, hb⟩⟩
    · simp [numV, numOk, h]
    · simp [numV, numOk, h, h2]
    · simp [numV, numOk, h, h2]
  generalize unsign s = d at *
  generalize signed s = sg at *
  have Hcut := Lib.hid hcut
  clear hcut
  by_cases hl : d.length < 1 ∨ 9 < d.length
  · have hno := Lib.hid (numD_len d hl)
    go_enter Tryd.func24, Tryd.ntmps24
    go_wp2_with fail
    refine Hcut.out.mono ?_
    rintro e w' ⟨rfl, rfl⟩
    rcases hl with hl | hl
    · go_wp2
      go_ret2
      exact (hpost.out _).1 hno.out (Below.refl _ _)
    · go_wp2
      go_ret2
      exact (hpost.out _).1 hno.out (Below.refl _ _)
  · have h1 : 1 ≤ d.length := by omega
    have h9 : d.length ≤ 9 := by omega
    clear hl
    go_enter Tryd.func24, Tryd.ntmps24
    go_wp2_with fail
    refine Hcut.out.mono ?_
    rintro e w' ⟨rfl, rfl⟩
    go_wp2
    go_loopw [6] (fun v wr => ∃ k N : Nat, wr = w.iter ⟨d.toArray⟩ k ∧ k ≤ d.length ∧ v = .int .i64 (N : Int) ∧ Hid (N = valB (d.take k)) ∧ ∀ j c, j < k → d[j]? = some c → digitB c = true) (fun _ wr => d.length - wr.iterPos w.heap.size)
    case atStart => exact ⟨0, 0, rfl, by omega, rfl, rfl, by omega⟩
    case round =>
      obtain ⟨k, N, rfl, hk, rfl, hN, hall⟩ := hrel
      by_cases hlt : k < d.length
      · obtain ⟨c, hc⟩ : ∃ c, d[k]? = some c := ⟨_, List.getElem?_eq_getElem hlt⟩
        have hb := byte_at d k c hc hlt
        have hvb : N ≤ 999999999 := by have := valB_bound d k (by omega) hall; rw [← hN.out] at this; omega
        by_cases ha : c.toNat < 128
        · have hnx : ∀ ty, (Instr.next (.pointer (some ⟨w.heap.size, 0, none⟩)) true ty).run Tryd.prog (w.iter ⟨d.toArray⟩ k) = _ := fun ty => run_next_ascii w ⟨d.toArray⟩ k ty hlt (by rw [hb]; exact ha)
          rw [hb] at hnx
          by_cases hdg : digitB c = true
          · have hend : Hid (∀ v : Int, v = 10 * (N : Int) + ((c.toNat : Int) - 48) → ∃ k' N' : Nat, w.iter ⟨d.toArray⟩ (k + 1) = w.iter ⟨d.toArray⟩ k' ∧ k' ≤ d.length ∧ Value.int .i64 v = .int .i64 (N' : Int) ∧ Hid (N' = valB (d.take k')) ∧ ∀ j c, j < k' → d[j]? = some c → digitB c = true) := by
              intro v hv
              have h48 := (digitB_iff c).1 hdg
              refine ⟨k + 1, 10 * N + (c.toNat - 48), rfl, by omega, ?_, ?_, digits_snoc d k c hc hdg hall⟩
              · rw [hv]
                congr 1
                omega
              · show _ = _
                rw [valB_take d k c hc, hN.out]
            obtain ⟨q1, q2⟩ := (digitB_iff c).1 hdg
            clear hc hall hb hdg
            go_wp2
            go_roundw
            case rel => exact hend.out _ (by omega)
            case measure => simp; omega
          · have hno := Lib.hid (numD_no d c (List.mem_of_getElem? hc) (by simpa using hdg))
            have hq : ¬ (48 ≤ c.toNat ∧ c.toNat ≤ 57) := fun h => hdg ((digitB_iff c).2 h)
            have hq2 : (c.toNat : Int) < 48 ∨ 57 < (c.toNat : Int) := by omega
            clear hc hall hb hdg hq
            rcases hq2 with hq2 | hq2
            · go_wp2
              go_ret2
              exact (hpost.out _).1 hno.out (below_iter _ _ _)
            · go_wp2
              go_ret2
              exact (hpost.out _).1 hno.out (below_iter _ _ _)
        · obtain ⟨hd1, -⟩ := decode_high ⟨d.toArray⟩ k hlt (by rw [hb]; omega)
          have hd2 := decode_le ⟨d.toArray⟩ k
          have hnx : ∀ ty, (Instr.next (.pointer (some ⟨w.heap.size, 0, none⟩)) true ty).run Tryd.prog (w.iter ⟨d.toArray⟩ k) = _ := fun ty => run_next_any w ⟨d.toArray⟩ k ty hlt
          have hno := Lib.hid (numD_no d c (List.mem_of_getElem? hc) (by rw [← Bool.not_eq_true, digitB_iff]; omega))
          clear hc hall hb
          generalize Utf8.decode ⟨d.toArray⟩ k = D at *
          obtain ⟨r, wd⟩ := D
          simp only at hd1 hd2 hnx
          go_wp2
          go_ret2
          exact (hpost.out _).1 hno.out (below_iter _ _ _)
      · obtain rfl : k = d.length := by omega
        have hyes := Lib.hid (numD_yes d (digits_all d hall) h1 h9)
        have hvb : N ≤ 999999999 := by have := valB_bound d d.length (by omega) hall; rw [← hN.out] at this; omega
        have hN2 : Hid (valB d = N) := by show _ = _; rw [hN.out, List.take_length]
        have hnx : ∀ ty, (Instr.next (.pointer (some ⟨w.heap.size, 0, none⟩)) true ty).run Tryd.prog (w.iter ⟨d.toArray⟩ d.length) = _ := fun ty => run_next_end w ⟨d.toArray⟩ d.length ty hlt
        clear hall
        cases sg with
        | true =>
          have hp := Lib.hid ((hpost.out (w.iter ⟨d.toArray⟩ d.length)).2.1 hyes.out rfl (below_iter _ _ _))
          rw [hN2.out] at hp
          go_wp2
          go_ret2
          exact hp.out
        | false =>
          have hp := Lib.hid ((hpost.out (w.iter ⟨d.toArray⟩ d.length)).2.2 hyes.out rfl (below_iter _ _ _))
          rw [hN2.out] at hp
          go_wp2
          go_ret2
          exact hp.out
end Go.Proofs.YtccnogdfnikioaaDoor
