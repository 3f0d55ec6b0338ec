/- fleuronlaw05.WordsKinds returns true. -/
import Derived.Test.YtccnogdfnikioaaDoorShown
import Derived.Test.YtccnogdfnikioaaDoorNames
import Derived.Test.YtccnogdfnikioaaDoorRefNumber
namespace Go.Proofs.YtccnogdfnikioaaDoor
open Go.RowKit

theorem bt {a b c : World} (h : Below a.heap.size a b) (k : Below b.heap.size b c) : Below a.heap.size a c := h.trans (k.mono h.size)
theorem num_not_name (l : B) (h : numOk l = true) : nameB l = false := by
  rw [← Bool.not_eq_true]
  intro hn
  obtain ⟨⟨h0, -⟩, hat⟩ := (nameB_iff l).1 hn
  cases l with
  | nil => simp at h0
  | cons c r =>
    have h1 := hat 0 c rfl
    rw [nameAt_zero, letterB_iff] at h1
    unfold numOk at h
    rcases unsign_cases (c :: r) with ⟨r', e, -, -⟩ | ⟨e, -, -⟩
    · injection e with e _
      subst e
      revert h1
      decide
    · rw [e, numD, Bool.and_eq_true, List.all_eq_true] at h
      have h2 := (digitB_iff c).1 (h.1 c (by simp))
      omega
set_option maxRecDepth 100000 in
set_option maxHeartbeats 4000000 in
theorem wordsKinds_ok (w : World) (s : B) : Calls Tryd.prog 11 #[.string ⟨s.toArray⟩] w fun e w' => e = .returned (.bool true) ∧ Below w.heap.size w w' := by
  have hfew := few_ok
  have Hfew := Lib.hid (fun w => hfew w s)
  clear hfew
  have hll : (s.take 300).length ≤ 300 := by simp; omega
  obtain ⟨l, hl⟩ : ∃ l, s.take 300 = l := ⟨_, rfl⟩
  rw [hl] at Hfew hll
  clear hl
  have hnn := Lib.hid (num_not_name l)
  have N1 : Hid (∀ w, Calls Tryd.prog 24 #[.string ⟨l.toArray⟩] w fun e w' => e = .returned (.tuple #[.int .i64 (numV l), .bool (numOk l)]) ∧ Below w.heap.size w w') := fun w => number_ok w l (by omega)
  have N2 : Hid (∀ w, Calls Tryd.prog 25 #[.string ⟨l.toArray⟩] w fun e w' => e = .returned (.tuple #[.int .i64 (numV l), .bool (numOk l)]) ∧ Below w.heap.size w w') := fun w => refNumber_ok w l (by omega)
  have N3 : Hid (∀ w, Calls Tryd.prog 22 #[.string ⟨l.toArray⟩] w fun e w' => e = .returned (.bool (nameB l)) ∧ Below w.heap.size w w') := fun w => name_ok w l
  have N4 : Hid (∀ w, Calls Tryd.prog 26 #[.string ⟨l.toArray⟩] w fun e w' => e = .returned (.bool (nameB l)) ∧ w = w') := fun w => refName_ok w l (by omega)
  generalize numV l = V at *
  generalize numOk l = b1 at *
  generalize nameB l = b2 at *
  have hV : (V == V) = true := by simp
  have ha : b1 = true → b2 = false := hnn.out
  clear hnn
  have hsA : Below w.heap.size w w := Below.refl _ _
  go_enter Tryd.func11, Tryd.ntmps11
  cases b1 with
  | true =>
    obtain rfl := ha rfl
    clear ha
    go_wp2_with (first
      | (go_at_call 12; refine (shown_ok _).mono ?_; rintro e w1 ⟨rfl, hs1⟩; replace hsA := bt hsA hs1; clear hs1)
      | (go_at_call 15; refine (Hfew.out _).mono ?_; rintro e w' ⟨rfl, rfl⟩)
      | (go_at_call 24; refine (N1.out _).mono ?_; rintro e w2 ⟨rfl, hs2⟩; replace hsA := bt hsA hs2; clear hs2)
      | (go_at_call 25; refine (N2.out _).mono ?_; rintro e w3 ⟨rfl, hs3⟩; replace hsA := bt hsA hs3; clear hs3)
      | (go_at_call 26; refine (N4.out _).mono ?_; rintro e w' ⟨rfl, rfl⟩)
      | (go_at_call 22; refine (N3.out _).mono ?_; rintro e w4 ⟨rfl, hs4⟩; replace hsA := bt hsA hs4; clear hs4))
    go_ret
    exact ⟨rfl, hsA⟩
  | false =>
    clear ha
    cases b2 with
    | true =>
      go_wp2_with (first
        | (go_at_call 12; refine (shown_ok _).mono ?_; rintro e w1 ⟨rfl, hs1⟩; replace hsA := bt hsA hs1; clear hs1)
        | (go_at_call 15; refine (Hfew.out _).mono ?_; rintro e w' ⟨rfl, rfl⟩)
        | (go_at_call 24; refine (N1.out _).mono ?_; rintro e w2 ⟨rfl, hs2⟩; replace hsA := bt hsA hs2; clear hs2)
        | (go_at_call 25; refine (N2.out _).mono ?_; rintro e w3 ⟨rfl, hs3⟩; replace hsA := bt hsA hs3; clear hs3)
        | (go_at_call 26; refine (N4.out _).mono ?_; rintro e w' ⟨rfl, rfl⟩)
        | (go_at_call 22; refine (N3.out _).mono ?_; rintro e w4 ⟨rfl, hs4⟩; replace hsA := bt hsA hs4; clear hs4))
      go_ret
      exact ⟨rfl, hsA⟩
    | false =>
      go_wp2_with (first
        | (go_at_call 12; refine (shown_ok _).mono ?_; rintro e w1 ⟨rfl, hs1⟩; replace hsA := bt hsA hs1; clear hs1)
        | (go_at_call 15; refine (Hfew.out _).mono ?_; rintro e w' ⟨rfl, rfl⟩)
        | (go_at_call 24; refine (N1.out _).mono ?_; rintro e w2 ⟨rfl, hs2⟩; replace hsA := bt hsA hs2; clear hs2)
        | (go_at_call 25; refine (N2.out _).mono ?_; rintro e w3 ⟨rfl, hs3⟩; replace hsA := bt hsA hs3; clear hs3)
        | (go_at_call 26; refine (N4.out _).mono ?_; rintro e w' ⟨rfl, rfl⟩)
        | (go_at_call 22; refine (N3.out _).mono ?_; rintro e w4 ⟨rfl, hs4⟩; replace hsA := bt hsA hs4; clear hs4))
      go_ret
      exact ⟨rfl, hsA⟩
end Go.Proofs.YtccnogdfnikioaaDoor
