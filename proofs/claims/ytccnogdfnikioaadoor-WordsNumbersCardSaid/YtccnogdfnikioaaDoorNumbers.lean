/- fleuronlaw05.WordsNumbers returns true. -/
import Derived.Test.YtccnogdfnikioaaDoorShown
import Derived.Test.YtccnogdfnikioaaDoorKinds
import Derived.Test.YtccnogdfnikioaaDoorDecimal
namespace Go.Proofs.YtccnogdfnikioaaDoor
open Go.RowKit

theorem dgB_digit (n : Nat) : digitB (dgB n) = true := by
  rw [digitB_iff, dgB_nat]
  omega
theorem decB_digits (u : Nat) : ∀ c ∈ decB u, digitB c = true := by
  induction u using decB.induct with
  | case1 u h =>
    rw [decB, dif_pos h]
    intro c hc
    simp at hc
    subst hc
    exact dgB_digit u
  | case2 u h ih =>
    rw [decB, dif_neg h]
    intro c hc
    rw [List.mem_append] at hc
    rcases hc with hc | hc
    · exact ih c hc
    · simp at hc
      subst hc
      exact dgB_digit u
theorem decB_val (u : Nat) : valB (decB u) = u := by
  induction u using decB.induct with
  | case1 u h =>
    rw [decB, dif_pos h]
    simp [valB, dgB_nat]
    omega
  | case2 u h ih =>
    rw [decB, dif_neg h, valB_snoc, ih, dgB_nat]
    omega
theorem decB_pos (u : Nat) : 1 ≤ (decB u).length := by
  rw [decB]
  split <;> simp
theorem valB_app (a b : B) : valB (a ++ b) = b.foldl (fun n c => 10 * n + (c.toNat - 48)) (valB a) := by simp [valB]
def zerosB (n : Nat) : B := List.replicate n 48
theorem zerosB_val (n : Nat) : valB (zerosB n) = 0 := by
  induction n with
  | zero => rfl
  | succ n ih =>
    rw [zerosB, List.replicate_succ', valB_snoc]
    change 10 * valB (zerosB n) + _ = 0
    rw [ih]
    rfl
theorem zerosB_app (n : Nat) (d : B) : valB (zerosB n ++ d) = valB d := by rw [valB_app, zerosB_val]; rfl
theorem zeros_digits (n : Nat) (d : B) (h : ∀ c ∈ d, digitB c = true) : ∀ c ∈ zerosB n ++ d, digitB c = true := by
  intro c hc
  rw [List.mem_append] at hc
  rcases hc with hc | hc
  · rw [zerosB, List.mem_replicate] at hc
    rw [hc.2]
    decide
  · exact h c hc
theorem unsign_digits (d : B) (h : ∀ c ∈ d, digitB c = true) : unsign d = d ∧ signed d = false := by
  rcases unsign_cases d with ⟨r, rfl, -, -⟩ | ⟨h1, h2, -⟩
  · exact absurd (h 45 (by simp)) (by decide)
  · exact ⟨h1, h2⟩
theorem unsign_minus (d : B) : unsign (45 :: d) = d ∧ signed (45 :: d) = true := ⟨rfl, rfl⟩
theorem numD_digits (d : B) (h : ∀ c ∈ d, digitB c = true) : numD d = decide (1 ≤ d.length ∧ d.length ≤ 9) := by
  rw [numD, List.all_eq_true.2 h, Bool.true_and]
/-- a text without a sign, and with one -/
theorem num_plain (d : B) (h : ∀ c ∈ d, digitB c = true) (h1 : 1 ≤ d.length) : numOk d = decide (d.length ≤ 9) ∧ numV d = (if d.length ≤ 9 then (valB d : Int) else 0) := by
  obtain ⟨e1, e2⟩ := unsign_digits d h
  rw [numOk, numV, e1, e2, numD_digits d h]
  by_cases h9 : d.length ≤ 9
  · simp [h9, h1]
  · simp [h9]
theorem num_minus (d : B) (h : ∀ c ∈ d, digitB c = true) (h1 : 1 ≤ d.length) : numOk (45 :: d) = decide (d.length ≤ 9) ∧ numV (45 :: d) = (if d.length ≤ 9 then -(valB d : Int) else 0) := by
  obtain ⟨e1, e2⟩ := unsign_minus d
  rw [numOk, numV, e1, e2, numD_digits d h]
  by_cases h9 : d.length ≤ 9
  · simp [h9, h1]
  · simp [h9]
theorem numD_snoc (d : B) (c : UInt8) (h : ∀ c ∈ d, digitB c = true) : numD (d ++ [c]) = (digitB c && decide (d.length < 9)) := by
  cases hc : digitB c with
  | false => rw [numD_no (d ++ [c]) c (by simp) hc]; rfl
  | true =>
    rw [numD_digits (d ++ [c]) (fun e he => by
      rw [List.mem_append] at he
      rcases he with he | he
      · exact h e he
      · simp at he; subst he; exact hc)]
    rw [Bool.true_and, Bool.eq_iff_iff]
    simp
    omega
theorem num_snoc (d : B) (c : UInt8) (h : ∀ c ∈ d, digitB c = true) (h1 : 1 ≤ d.length) : numOk (d ++ [c]) = (digitB c && decide (d.length < 9)) := by
  have e : unsign (d ++ [c]) = d ++ [c] := by
    rcases unsign_cases (d ++ [c]) with ⟨r, e, -, -⟩ | ⟨h1, h2, -⟩
    · cases d with
      | nil => simp at h1
      | cons a d =>
        injection e with e _
        subst e
        exact absurd (h 45 (by simp)) (by decide)
    · exact h1
  rw [numOk, e, numD_snoc d c h]
theorem num_snoc_minus (d : B) (c : UInt8) (h : ∀ c ∈ d, digitB c = true) : numOk (45 :: (d ++ [c])) = (digitB c && decide (d.length < 9)) := by
  rw [numOk, (unsign_minus (d ++ [c])).1, numD_snoc d c h]
theorem num_twice (d : B) : numOk (45 :: 45 :: d) = false := by
  rw [numOk, (unsign_minus (45 :: d)).1]
  exact numD_no _ 45 (by simp) (by decide)
theorem numC (X : B) (v : Int) (b : Bool) (hl : X.length ≤ 1000) (hv : numV X = v) (hb : numOk X = b) (w : World) : Calls Tryd.prog 24 #[.string ⟨X.toArray⟩] w fun e w' => e = .returned (.tuple #[.int .i64 v, .bool b]) ∧ Below w.heap.size w w' := by
  have := number_ok w X (by omega)
  refine this.mono ?_
  rintro e w' ⟨rfl, h⟩
  rw [hv, hb]
  exact ⟨rfl, h⟩
theorem zeros_extract (k : Nat) (hk : k ≤ 8) : (ByteArray.mk #[48, 48, 48, 48, 48, 48, 48, 48]).extract 0 k = ⟨(zerosB k).toArray⟩ := by
  have := extract_list (zerosB 8) 0 k
  rw [List.drop_zero, zerosB, List.take_replicate, Nat.min_eq_left hk] at this
  exact this
set_option maxRecDepth 100000 in
set_option maxHeartbeats 8000000 in
theorem numbers_pos (w : World) (n : Int) (nb c : UInt8) (U : Nat) (hU : U ≤ 999999999) (hk : n.tmod 1000000000 = (U : Int)) : Calls Tryd.prog 10 #[.int .i64 n, .int .u8 nb.toNat, .int .u8 c.toNat] w fun e w' => e = .returned (.bool true) ∧ Below w.heap.size w w' := by
  have hdec := Lib.hid (fun w => decimal_pos w U hU)
  have hD1 := decB_pos U
  have hD9 := decB_nine U hU
  have hDd := decB_digits U
  have hDv := decB_val U
  generalize decB U = D at *
  have hz := zeros_extract (1 + nb.toNat % 8) (by omega)
  have hzl : (zerosB (1 + nb.toNat % 8)).length = 1 + nb.toNat % 8 := by simp [zerosB]
  have hzd := zeros_digits (1 + nb.toNat % 8) D hDd
  have hzv := zerosB_app (1 + nb.toNat % 8) D
  generalize zerosB (1 + nb.toNat % 8) = Z at *
  have a1 := app_list Z D
  have a2 : (ByteArray.mk #[]) ++ ⟨(Z ++ D).toArray⟩ = ⟨(Z ++ D).toArray⟩ := app_list [] (Z ++ D)
  have a3 : (ByteArray.mk D.toArray) ++ ⟨#[c]⟩ = ⟨(D ++ [c]).toArray⟩ := app_list D [c]
  have a4 : (ByteArray.mk #[45, 45]) ++ ⟨D.toArray⟩ = ⟨(45 :: 45 :: D).toArray⟩ := app_list [45, 45] D
  have n1 := num_plain D hDd hD1
  rw [decide_eq_true hD9, if_pos hD9, hDv] at n1
  have hLl : (Z ++ D).length = Z.length + D.length := List.length_append
  have n2 := num_plain (Z ++ D) hzd (by omega)
  have n3 := num_snoc D c hDd hD1
  have n4 := num_twice D
  have Na := Lib.hid (numC D _ _ (by omega) n1.2 n1.1)
  have No := Lib.hid (numC (D ++ [c]) _ _ (by simp; omega) rfl n3)
  have Nt := Lib.hid (numC (45 :: 45 :: D) _ _ (by simp; omega) rfl n4)
  have Ne := Lib.hid (numC [] 0 false (by simp) rfl rfl)
  have N1 := Lib.hid (numC [45] 0 false (by simp) rfl rfl)
  rw [hzv, hDv] at n2
  have hcs : ∃ (vb : Int) (fb : Bool), numV (Z ++ D) = vb ∧ numOk (Z ++ D) = fb ∧ Hid ((fb = true ∧ vb = (U : Int) ∧ (Z ++ D).length ≤ 9) ∨ (fb = false ∧ vb = 0 ∧ ¬ (Z ++ D).length ≤ 9)) := by
    by_cases hf : (Z ++ D).length ≤ 9
    · rw [decide_eq_true hf, if_pos hf] at n2
      exact ⟨_, _, n2.2, n2.1, .inl ⟨rfl, rfl, hf⟩⟩
    · rw [decide_eq_false hf, if_neg hf] at n2
      exact ⟨_, _, n2.2, n2.1, .inr ⟨rfl, rfl, hf⟩⟩
  obtain ⟨vb, fb, hv2, hf2, hcs⟩ := hcs
  have Nb := Lib.hid (numC (Z ++ D) vb fb (by omega) hv2 hf2)
  clear hv2 hf2
  have cv := fun w => conv1 w c
  have hc8 : (c.toNat : Int) ≤ 255 := by have := c.toNat_lt; omega
  have hn8 : (nb.toNat : Int) ≤ 255 := by have := nb.toNat_lt; omega
  have hZ8 : Z.length ≤ 8 := by omega
  have Hzl := Lib.hid hzl
  have hsA : Below w.heap.size w w := Below.refl _ _
  clear hDd hDv hzl hzd hzv n1 n2 n3 n4
  go_enter Tryd.func10, Tryd.ntmps10
  go_wp2_with fail
  refine (shown_ok _).mono ?_; rintro e w1 ⟨rfl, hs⟩; replace hsA := bt hsA hs; clear hs
  go_wp2_with fail
  refine (hdec.out _).mono ?_; rintro e w2 ⟨rfl, hs⟩; replace hsA := bt hsA hs; clear hs
  go_wp2_with fail
  refine (Na.out _).mono ?_; rintro e w3 ⟨rfl, hs⟩; replace hsA := bt hsA hs; clear hs
  go_wp2_with fail
  refine (Nb.out _).mono ?_; rintro e w4 ⟨rfl, hs⟩; replace hsA := bt hsA hs; clear hs
  go_wp2_with fail
  refine (No.out _).mono ?_; rintro e w5 ⟨rfl, hs⟩; replace hsA := bt (hsA.alloc hsA.size _) hs; clear hs
  go_wp2_with fail
  refine (Nt.out _).mono ?_; rintro e w6 ⟨rfl, hs⟩; replace hsA := bt hsA hs; clear hs
  go_wp2_with fail
  refine (Ne.out _).mono ?_; rintro e w7 ⟨rfl, hs⟩; replace hsA := bt hsA hs; clear hs
  go_wp2_with fail
  refine (N1.out _).mono ?_; rintro e w8 ⟨rfl, hs⟩; replace hsA := bt hsA hs; clear hs
  clear a1 a2 a3 a4 hz cv hdec Na Nt Ne N1
  go_upto_region 16 with fail
  go_cut [25] from 81 to 86 (fun s25 wx => s25 = .bool (digitB c) ∧ w8 = wx)
  case first =>
    have hcl : (c.toNat : Int) ≤ 47 ∨ (48 ≤ (c.toNat : Int) ∧ (c.toNat : Int) ≤ 57) ∨ 58 ≤ (c.toNat : Int) := by omega
    rcases hcl with h | ⟨h1, h2⟩ | h
    all_goals go_wp2_with fail
    all_goals go_meet
    all_goals refine ⟨bool_val ?_, rfl⟩
    all_goals rw [digitB_iff]
    all_goals simp
    all_goals omega
  case rest =>
    obtain ⟨rfl, hwx⟩ := hcut
    subst hwx
    have hUU : ((U : Int) == (U : Int)) = true := by simp
    clear Nb No hk
    rcases hcs.out with ⟨rfl, rfl, hf⟩ | ⟨rfl, rfl, hf⟩
    · have hf2 : Z.length + D.length ≤ 9 := by omega
      cases hdg : digitB c with
      | true =>
        by_cases h9 : D.length < 9
        · have e3 : decide (D.length < 9) = true := by simpa using h9
          rw [e3]
          go_wp2_with fail
          go_ret
          exact ⟨by first | rfl | (simp; omega), hsA⟩
        · have e3 : decide (D.length < 9) = false := by simpa using h9
          rw [e3]
          go_wp2_with fail
          go_ret
          exact ⟨by first | rfl | (simp; omega), hsA⟩
      | false =>
        go_wp2_with fail
        go_ret
        exact ⟨by first | rfl | (simp; omega), hsA⟩
    · have hf2 : ¬ Z.length + D.length ≤ 9 := by omega
      cases hdg : digitB c with
      | true =>
        by_cases h9 : D.length < 9
        · have e3 : decide (D.length < 9) = true := by simpa using h9
          rw [e3]
          go_wp2_with fail
          go_ret
          exact ⟨by first | rfl | (simp; omega), hsA⟩
        · have e3 : decide (D.length < 9) = false := by simpa using h9
          rw [e3]
          go_wp2_with fail
          go_ret
          exact ⟨by first | rfl | (simp; omega), hsA⟩
      | false =>
        go_wp2_with fail
        go_ret
        exact ⟨by first | rfl | (simp; omega), hsA⟩
set_option maxRecDepth 100000 in
set_option maxHeartbeats 8000000 in
theorem numbers_neg (w : World) (n : Int) (nb c : UInt8) (U : Nat) (hU0 : 1 ≤ U) (hU : U ≤ 999999999) (hk : n.tmod 1000000000 = -(U : Int)) : Calls Tryd.prog 10 #[.int .i64 n, .int .u8 nb.toNat, .int .u8 c.toNat] w fun e w' => e = .returned (.bool true) ∧ Below w.heap.size w w' := by
  have hdec := Lib.hid (fun w => decimal_neg w U hU0 hU)
  have hD1 := decB_pos U
  have hD9 := decB_nine U hU
  have hDd := decB_digits U
  have hDv := decB_val U
  generalize decB U = D at *
  have hz := zeros_extract (1 + nb.toNat % 8) (by omega)
  have hzl : (zerosB (1 + nb.toNat % 8)).length = 1 + nb.toNat % 8 := by simp [zerosB]
  have hzd := zeros_digits (1 + nb.toNat % 8) D hDd
  have hzv := zerosB_app (1 + nb.toNat % 8) D
  generalize zerosB (1 + nb.toNat % 8) = Z at *
  have a1 := app_list Z D
  have a2 : (ByteArray.mk #[45]) ++ ⟨(Z ++ D).toArray⟩ = ⟨(45 :: (Z ++ D)).toArray⟩ := app_list [45] (Z ++ D)
  have a5 : (ByteArray.mk (45 :: D).toArray).extract 1 (D.length + 1) = ⟨D.toArray⟩ := by rw [extract_list]; simp
  have a3 : (ByteArray.mk (45 :: D).toArray) ++ ⟨#[c]⟩ = ⟨(45 :: (D ++ [c])).toArray⟩ := app_list (45 :: D) [c]
  have a4 : (ByteArray.mk #[45, 45, 45]) ++ ⟨D.toArray⟩ = ⟨(45 :: 45 :: 45 :: D).toArray⟩ := app_list [45, 45, 45] D
  have n1 := num_minus D hDd hD1
  rw [decide_eq_true hD9, if_pos hD9, hDv] at n1
  have hLl : (Z ++ D).length = Z.length + D.length := List.length_append
  have n2 := num_minus (Z ++ D) hzd (by omega)
  have n3 := num_snoc_minus D c hDd
  have n4 := num_twice (45 :: D)
  have Na := Lib.hid (numC (45 :: D) _ _ (by simp; omega) n1.2 n1.1)
  have No := Lib.hid (numC (45 :: (D ++ [c])) _ _ (by simp; omega) rfl n3)
  have Nt := Lib.hid (numC (45 :: 45 :: 45 :: D) _ _ (by simp; omega) rfl n4)
  have Ne := Lib.hid (numC [] 0 false (by simp) rfl rfl)
  have N1 := Lib.hid (numC [45] 0 false (by simp) rfl rfl)
  rw [hzv, hDv] at n2
  have hcs : ∃ (vb : Int) (fb : Bool), numV (45 :: (Z ++ D)) = vb ∧ numOk (45 :: (Z ++ D)) = fb ∧ Hid ((fb = true ∧ vb = -(U : Int) ∧ (Z ++ D).length ≤ 9) ∨ (fb = false ∧ vb = 0 ∧ ¬ (Z ++ D).length ≤ 9)) := by
    by_cases hf : (Z ++ D).length ≤ 9
    · rw [decide_eq_true hf, if_pos hf] at n2
      exact ⟨_, _, n2.2, n2.1, .inl ⟨rfl, rfl, hf⟩⟩
    · rw [decide_eq_false hf, if_neg hf] at n2
      exact ⟨_, _, n2.2, n2.1, .inr ⟨rfl, rfl, hf⟩⟩
  obtain ⟨vb, fb, hv2, hf2, hcs⟩ := hcs
  have Nb := Lib.hid (numC (45 :: (Z ++ D)) vb fb (by simp; omega) hv2 hf2)
  clear hv2 hf2
  have cv := fun w => conv1 w c
  have hc8 : (c.toNat : Int) ≤ 255 := by have := c.toNat_lt; omega
  have hn8 : (nb.toNat : Int) ≤ 255 := by have := nb.toNat_lt; omega
  have hZ8 : Z.length ≤ 8 := by omega
  have Hzl := Lib.hid hzl
  have hsA : Below w.heap.size w w := Below.refl _ _
  clear hDd hDv hzl hzd hzv n1 n2 n3 n4
  go_enter Tryd.func10, Tryd.ntmps10
  go_wp2_with fail
  refine (shown_ok _).mono ?_; rintro e w1 ⟨rfl, hs⟩; replace hsA := bt hsA hs; clear hs
  go_wp2_with fail
  refine (hdec.out _).mono ?_; rintro e w2 ⟨rfl, hs⟩; replace hsA := bt hsA hs; clear hs
  go_wp2_with fail
  refine (Na.out _).mono ?_; rintro e w3 ⟨rfl, hs⟩; replace hsA := bt hsA hs; clear hs
  go_wp2_with fail
  refine (Nb.out _).mono ?_; rintro e w4 ⟨rfl, hs⟩; replace hsA := bt hsA hs; clear hs
  go_wp2_with fail
  refine (No.out _).mono ?_; rintro e w5 ⟨rfl, hs⟩; replace hsA := bt (hsA.alloc hsA.size _) hs; clear hs
  go_wp2_with fail
  refine (Nt.out _).mono ?_; rintro e w6 ⟨rfl, hs⟩; replace hsA := bt hsA hs; clear hs
  go_wp2_with fail
  refine (Ne.out _).mono ?_; rintro e w7 ⟨rfl, hs⟩; replace hsA := bt hsA hs; clear hs
  go_wp2_with fail
  refine (N1.out _).mono ?_; rintro e w8 ⟨rfl, hs⟩; replace hsA := bt hsA hs; clear hs
  clear a1 a2 a3 a4 a5 hz cv hdec Na Nt Ne N1
  go_upto_region 16 with fail
  go_cut [25] from 81 to 86 (fun s25 wx => s25 = .bool (digitB c) ∧ w8 = wx)
  case first =>
    have hcl : (c.toNat : Int) ≤ 47 ∨ (48 ≤ (c.toNat : Int) ∧ (c.toNat : Int) ≤ 57) ∨ 58 ≤ (c.toNat : Int) := by omega
    rcases hcl with h | ⟨h1, h2⟩ | h
    all_goals go_wp2_with fail
    all_goals go_meet
    all_goals refine ⟨bool_val ?_, rfl⟩
    all_goals rw [digitB_iff]
    all_goals simp
    all_goals omega
  case rest =>
    obtain ⟨rfl, hwx⟩ := hcut
    subst hwx
    have hUU : ((-(U : Int)) == (-(U : Int))) = true := by simp
    clear Nb No hk
    rcases hcs.out with ⟨rfl, rfl, hf⟩ | ⟨rfl, rfl, hf⟩
    · have hf2 : Z.length + D.length ≤ 9 := by omega
      cases hdg : digitB c with
      | true =>
        by_cases h9 : D.length < 9
        · have e3 : decide (D.length < 9) = true := by simpa using h9
          rw [e3]
          go_wp2_with fail
          go_ret
          exact ⟨by first | rfl | (simp; omega), hsA⟩
        · have e3 : decide (D.length < 9) = false := by simpa using h9
          rw [e3]
          go_wp2_with fail
          go_ret
          exact ⟨by first | rfl | (simp; omega), hsA⟩
      | false =>
        go_wp2_with fail
        go_ret
        exact ⟨by first | rfl | (simp; omega), hsA⟩
    · have hf2 : ¬ Z.length + D.length ≤ 9 := by omega
      cases hdg : digitB c with
      | true =>
        by_cases h9 : D.length < 9
        · have e3 : decide (D.length < 9) = true := by simpa using h9
          rw [e3]
          go_wp2_with fail
          go_ret
          exact ⟨by first | rfl | (simp; omega), hsA⟩
        · have e3 : decide (D.length < 9) = false := by simpa using h9
          rw [e3]
          go_wp2_with fail
          go_ret
          exact ⟨by first | rfl | (simp; omega), hsA⟩
      | false =>
        go_wp2_with fail
        go_ret
        exact ⟨by first | rfl | (simp; omega), hsA⟩
theorem wordsNumbers_ok (w : World) (n : Int) (_hn : (Lit.int .i64 n).wf = true) (x : Int) (hx : (Lit.int .u8 x).wf = true) (y : Int) (hy : (Lit.int .u8 y).wf = true) : Calls Tryd.prog 10 #[.int .i64 n, .int .u8 x, .int .u8 y] w fun e w' => e = .returned (.bool true) ∧ Below w.heap.size w w' := by
  obtain ⟨nb, rfl⟩ := u8_of hx
  obtain ⟨c, rfl⟩ := u8_of hy
  have h1 : n.tmod 1000000000 < 1000000000 := Int.tmod_lt_of_pos n (by omega)
  have h2 : -1000000000 < n.tmod 1000000000 := by
    have := Int.tmod_lt_of_pos (-n) (b := 1000000000) (by omega)
    rw [Int.neg_tmod] at this
    omega
  by_cases h : 0 ≤ n.tmod 1000000000
  · exact numbers_pos w n nb c (n.tmod 1000000000).toNat (by omega) (by omega)
  · exact numbers_neg w n nb c (-(n.tmod 1000000000)).toNat (by omega) (by omega) (by omega)
end Go.Proofs.YtccnogdfnikioaaDoor
