/- fleuronlaw05.WordsNames returns true. -/
import Derived.Test.YtccnogdfnikioaaDoorShown
import Derived.Test.YtccnogdfnikioaaDoorName
import Derived.Deep.DeepCutAuto
import Derived.Laws.IdiomStrings
import Derived.OpenShut
namespace Go.Proofs.YtccnogdfnikioaaDoor
open Go.RowKit

def innerB (c : UInt8) : Bool := letterB c || digitB c || c == 45
theorem conv1 (w : World) (b : UInt8) : (convert 31 9 (.slice (some ⟨w.heap.size, 0, none⟩) 1 1)).run Tryd.prog (w.alloc (.cells #[.int .u8 b.toNat] 5)) = .ok (.string ⟨#[b]⟩) (w.alloc (.cells #[.int .u8 b.toNat] 5)) :=
  run_convert_bytes_back (w.alloc (.cells #[.int .u8 b.toNat] 5)) 31 9 5 ⟨w.heap.size, 0, none⟩ 1 [b] Tryd.underlying31 Tryd.underlying5 Tryd.underlying9 (fun j hj => by
    obtain rfl : j = 0 := by simpa using hj
    rw [addr_add]
    exact (Bk.new w 5 #[.int .u8 b.toNat]).cell 0)
theorem app_list (a b : B) : (ByteArray.mk a.toArray) ++ ⟨b.toArray⟩ = ⟨(a ++ b).toArray⟩ := by
  apply ByteArray.ext
  rw [ByteArray.data_append]
  apply Array.ext'
  simp
theorem nameB_iff (l : B) : nameB l = true ↔ (0 < l.length ∧ l.length ≤ 16) ∧ ∀ i c, l[i]? = some c → nameAt i c = true := by
  rw [nameB, Bool.and_eq_true, decide_eq_true_iff, List.all_eq_true]
  refine and_congr_right fun _ => ⟨fun h i c hc => ?_, fun h i hi => ?_⟩
  · obtain ⟨h1, h2⟩ := List.getElem?_eq_some_iff.1 hc
    have := h i (by simpa using h1)
    rwa [hc] at this
  · have hi' : i < l.length := by simpa using hi
    rw [List.getElem?_eq_getElem hi']
    exact h i _ (List.getElem?_eq_getElem hi')
theorem nameAt_zero (c : UInt8) : nameAt 0 c = letterB c := by simp [nameAt]
theorem nameAt_pos (i : Nat) (c : UInt8) (h : i ≠ 0) : nameAt i c = innerB c := by simp [nameAt, innerB, h, Bool.or_assoc]
theorem nameB_one (c : UInt8) : nameB [c] = letterB c := by
  rw [Bool.eq_iff_iff, nameB_iff]
  constructor
  · rintro ⟨-, h⟩
    have := h 0 c rfl
    rwa [nameAt_zero] at this
  · intro h
    refine ⟨by simp, fun i d hd => ?_⟩
    cases i with
    | zero => simp at hd; subst hd; rw [nameAt_zero]; exact h
    | succ i => simp at hd
theorem nameB_snoc (l : B) (c : UInt8) : nameB (l ++ [c]) = ((nameB l && innerB c && decide (l.length < 16)) || (decide (l.length = 0) && letterB c)) := by
  by_cases h0 : l.length = 0
  · have : l = [] := List.eq_nil_of_length_eq_zero h0
    subst this
    rw [List.nil_append, nameB_one]
    simp [nameB]
  · rw [Bool.eq_iff_iff, nameB_iff]
    simp only [h0, decide_false, Bool.false_and, Bool.or_false, Bool.and_eq_true, decide_eq_true_iff, nameB_iff, List.length_append, List.length_cons, List.length_nil]
    constructor
    · rintro ⟨⟨h1, h2⟩, h3⟩
      refine ⟨⟨⟨⟨by omega, by omega⟩, fun i d hd => h3 i d ?_⟩, ?_⟩, by omega⟩
      · rw [List.getElem?_append_left (List.getElem?_eq_some_iff.1 hd).1]
        exact hd
      · have := h3 l.length c (by simp)
        rwa [nameAt_pos _ _ h0] at this
    · rintro ⟨⟨⟨⟨h1, h2⟩, h3⟩, h4⟩, h5⟩
      refine ⟨⟨by omega, by omega⟩, fun i d hd => ?_⟩
      by_cases hi : i < l.length
      · rw [List.getElem?_append_left hi] at hd
        exact h3 i d hd
      · have : i = l.length := by
          have := (List.getElem?_eq_some_iff.1 hd).1
          simp at this
          omega
        subst this
        simp at hd
        subst hd
        rw [nameAt_pos _ _ h0]
        exact h4
theorem nameB_lens {l : B} (h : nameB l = true) : 0 < l.length ∧ l.length ≤ 16 := ((nameB_iff l).1 h).1
theorem letterB_iff (c : UInt8) : letterB c = true ↔ (65 ≤ c.toNat ∧ c.toNat ≤ 90) ∨ (97 ≤ c.toNat ∧ c.toNat ≤ 122) ∨ c.toNat = 95 ∨ c.toNat = 46 := by
  simp [letterB, u8_eq]
  omega
theorem innerB_iff (c : UInt8) : innerB c = true ↔ letterB c = true ∨ (48 ≤ c.toNat ∧ c.toNat ≤ 57) ∨ c.toNat = 45 := by
  simp [innerB, digitB, u8_eq, or_assoc]
theorem int_u8 {a b : Int} (h : a = b) : Value.int .u8 a = .int .u8 b := by rw [h]
theorem bool_val {x y : Bool} (h : x = true ↔ y = true) : Value.bool x = .bool y := by rw [Bool.eq_iff_iff.2 h]
set_option maxRecDepth 100000 in
set_option maxHeartbeats 8000000 in
theorem wordsNames_ok (w : World) (s : B) (c : UInt8) : Calls Tryd.prog 9 #[.string ⟨s.toArray⟩, .int .u8 c.toNat] w fun e w' => e = .returned (.bool true) ∧ Below w.heap.size w w' := by
  have hfew := few_ok
  have Hfew := Lib.hid (fun w => hfew w s)
  clear hfew
  have hll : (s.take 300).length ≤ 300 := by simp; omega
  obtain ⟨l, hl⟩ : ∃ l, s.take 300 = l := ⟨_, rfl⟩
  rw [hl] at Hfew hll
  clear hl
  have cv := fun w => conv1 w c
  have hap : (ByteArray.mk l.toArray) ++ ⟨#[c]⟩ = ⟨(l ++ [c]).toArray⟩ := app_list l [c]
  have hmore := nameB_snoc l c
  have halone := nameB_one c
  obtain ⟨bm, hbm⟩ : ∃ bm, nameB (l ++ [c]) = bm := ⟨_, rfl⟩
  obtain ⟨bi, hbi⟩ : ∃ bi, nameB l = bi := ⟨_, rfl⟩
  obtain ⟨ba, hba⟩ : ∃ ba, nameB [c] = ba := ⟨_, rfl⟩
  obtain ⟨bl, hbl⟩ : ∃ bl, letterB c = bl := ⟨_, rfl⟩
  obtain ⟨bn, hbn⟩ : ∃ bn, innerB c = bn := ⟨_, rfl⟩
  have Him := Lib.hid (fun h : bi = true => nameB_lens (l := l) (hbi.trans h))
  have hln : bl = true → bn = true := fun h => by rw [← hbn, innerB_iff]; exact .inl (hbl.trans h)
  rw [hbm, hbi, hbn, hbl] at hmore
  rw [hba, hbl] at halone
  have Hm := Lib.hid hmore
  have Ha := Lib.hid halone
  have Hbl : Hid (bl = true ↔ (65 ≤ c.toNat ∧ c.toNat ≤ 90) ∨ (97 ≤ c.toNat ∧ c.toNat ≤ 122) ∨ c.toNat = 95 ∨ c.toNat = 46) := by show _ ↔ _; rw [← hbl]; exact letterB_iff c
  have Hbn : Hid (bn = true ↔ bl = true ∨ (48 ≤ c.toNat ∧ c.toNat ≤ 57) ∨ c.toNat = 45) := by show _ ↔ _; rw [← hbn, ← hbl]; exact innerB_iff c
  have Ni : Hid (∀ w, Calls Tryd.prog 22 #[.string ⟨l.toArray⟩] w fun e w' => e = .returned (.bool bi) ∧ Below w.heap.size w w') := fun w => by have := name_ok w l; rwa [hbi] at this
  have Nm : Hid (∀ w, Calls Tryd.prog 22 #[.string ⟨(l ++ [c]).toArray⟩] w fun e w' => e = .returned (.bool bm) ∧ Below w.heap.size w w') := fun w => by have := name_ok w (l ++ [c]); rwa [hbm] at this
  have Na : Hid (∀ w, Calls Tryd.prog 22 #[.string ⟨#[c]⟩] w fun e w' => e = .returned (.bool ba) ∧ Below w.heap.size w w') := fun w => by have := name_ok w [c]; rwa [hba] at this
  have hc8 : (c.toNat : Int) ≤ 255 := by have := c.toNat_lt; omega
  clear hmore halone hbm hbi hba hbl hbn
  go_enter Tryd.func9, Tryd.ntmps9
  go_wp2_with fail
  refine (shown_ok _).mono ?_
  rintro e w1 ⟨rfl, hs1⟩
  go_wp2_with fail
  refine (Hfew.out _).mono ?_
  rintro e w' ⟨rfl, rfl⟩
  go_wp2_with fail
  refine (Ni.out _).mono ?_
  rintro e w2 ⟨rfl, hs2⟩
  go_wp2_with fail
  refine (Nm.out _).mono ?_
  rintro e w3 ⟨rfl, hs3⟩
  go_upto_region 5 with fail
  go_cut [1, 9, 18] from 23 to 44 (fun s1 s9 _ wx => s1 = .int .u8 c.toNat ∧ s9 = .bool bl ∧ w3 = wx)
  case first =>
    have hcl : (c.toNat : Int) ≤ 45 ∨ (46 ≤ (c.toNat : Int) ∧ (c.toNat : Int) ≤ 46) ∨ (47 ≤ (c.toNat : Int) ∧ (c.toNat : Int) ≤ 64) ∨ (65 ≤ (c.toNat : Int) ∧ (c.toNat : Int) ≤ 90) ∨ (91 ≤ (c.toNat : Int) ∧ (c.toNat : Int) ≤ 94) ∨ (95 ≤ (c.toNat : Int) ∧ (c.toNat : Int) ≤ 95) ∨ (96 ≤ (c.toNat : Int) ∧ (c.toNat : Int) ≤ 96) ∨ (97 ≤ (c.toNat : Int) ∧ (c.toNat : Int) ≤ 122) ∨ 123 ≤ (c.toNat : Int) := by omega
    rcases hcl with h | ⟨h1, h2⟩ | ⟨h1, h2⟩ | ⟨h1, h2⟩ | ⟨h1, h2⟩ | ⟨h1, h2⟩ | ⟨h1, h2⟩ | ⟨h1, h2⟩ | h
    all_goals go_wp2_with fail
    all_goals go_meet
    all_goals refine ⟨int_u8 (by omega), bool_val ?_, rfl⟩
    all_goals rw [Hbl.out]
    all_goals simp
    all_goals omega
  case rest =>
    obtain ⟨rfl, rfl, hwx⟩ := hcut
    subst hwx
    go_upto_region 6 with fail
    go_cut [1, 10] from 45 to 57 (fun s1 s10 wx => s1 = .int .u8 c.toNat ∧ s10 = .bool bn ∧ w3 = wx)
    case first =>
      cases bl with
      | true =>
        go_wp2_with fail
        go_meet
        refine ⟨rfl, bool_val ?_, rfl⟩
        rw [Hbn.out]
        simp
      | false =>
        have hcl : (c.toNat : Int) ≤ 44 ∨ (45 ≤ (c.toNat : Int) ∧ (c.toNat : Int) ≤ 45) ∨ (46 ≤ (c.toNat : Int) ∧ (c.toNat : Int) ≤ 47) ∨ (48 ≤ (c.toNat : Int) ∧ (c.toNat : Int) ≤ 57) ∨ 58 ≤ (c.toNat : Int) := by omega
        rcases hcl with h | ⟨h1, h2⟩ | ⟨h1, h2⟩ | ⟨h1, h2⟩ | h
        all_goals go_wp2_with fail
        all_goals go_meet
        all_goals refine ⟨int_u8 (by omega), bool_val ?_, rfl⟩
        all_goals rw [Hbn.out]
        all_goals simp
        all_goals omega
    case rest =>
      obtain ⟨rfl, rfl, hwx⟩ := hcut
      subst hwx
      go_wp2_with fail
      refine (Na.out _).mono ?_
      rintro e w4 ⟨rfl, hs4⟩
      have hfin : Hid (Below w.heap.size w w4) := by
        have z1 := hs1.size
        have z2 := hs2.size
        have z3 := hs3.size
        simp at z3
        exact (((hs1.trans (hs2.mono z1)).alloc (by omega) _).trans (hs3.mono (by simp; omega))).alloc (by omega) _ |>.trans (hs4.mono (by simp; omega))
      have hcase : (bi = true ∧ 0 < l.length ∧ l.length ≤ 16 ∧ (bm = (bn && decide (l.length < 16)))) ∨ (bi = false ∧ bm = (decide (l.length = 0) && bl)) := by
        have h1 := Him.out
        have h2 := Hm.out
        cases bi with
        | true =>
          obtain ⟨a1, a2⟩ := h1 rfl
          refine .inl ⟨rfl, a1, a2, ?_⟩
          rw [h2]
          simp [show l.length ≠ 0 by omega]
        | false => exact .inr ⟨rfl, by rw [h2]; simp⟩
      have hba : ba = bl := Ha.out
      subst hba
      clear hs1 hs2 hs3 hs4 cv hap
      rcases hcase with ⟨rfl, h1, h2, rfl⟩ | ⟨rfl, rfl⟩
      · have e3 : l ≠ [] := by rintro rfl; simp at h1
        have e1 : l.isEmpty = false := by simpa using e3
        have e2 : (l == []) = false := by simpa using e3
        by_cases h16 : l.length < 16
        · have d16 : decide (l.length < 16) = true := by simp [h16]
          cases bn <;> cases ba
          all_goals
            go_wp2_with fail
            all_goals go_ret
            all_goals exact ⟨by first | rfl | (simp; omega) | (simp_all; done) | (simp_all; omega), hfin.out⟩
        · have d16 : decide (l.length < 16) = false := by simp; omega
          cases bn <;> cases ba
          all_goals
            go_wp2_with fail
            all_goals go_ret
            all_goals exact ⟨by first | rfl | (simp; omega) | (simp_all; done) | (simp_all; omega), hfin.out⟩
      · by_cases h0 : l.length = 0
        · have e0 : l = [] := List.eq_nil_of_length_eq_zero h0
          subst e0
          cases ba
          all_goals
            go_wp2_with fail
            all_goals go_ret
            all_goals exact ⟨by first | rfl | (simp; omega) | (simp_all; done) | (simp_all; omega), hfin.out⟩
        · have e3 : l ≠ [] := by rintro rfl; simp at h0
          have e1 : l.isEmpty = false := by simpa using e3
          have e2 : (l == []) = false := by simpa using e3
          have d0 : decide (l.length = 0) = false := by simp; omega
          cases ba
          all_goals
            go_wp2_with fail
            all_goals go_ret
            all_goals exact ⟨by first | rfl | (simp; omega) | (simp_all; done) | (simp_all; omega), hfin.out⟩
theorem u8_of {a : Int} (h : (Lit.int .u8 a).wf = true) : ∃ c : UInt8, a = c.toNat := by
  obtain ⟨h1, h2⟩ := bounds_u8 h
  refine ⟨UInt8.ofNat a.toNat, ?_⟩
  rw [UInt8.toNat_ofNat']
  omega
theorem wordsNames_row (w : World) (s : B) (a : Int) (ha : (Lit.int .u8 a).wf = true) : Calls Tryd.prog 9 #[.string ⟨s.toArray⟩, .int .u8 a] w fun e w' => e = .returned (.bool true) ∧ Below w.heap.size w w' := by
  obtain ⟨c, rfl⟩ := u8_of ha
  exact wordsNames_ok w s c
end Go.Proofs.YtccnogdfnikioaaDoor
