/- Plain Lean: what ParseOps' source is parsed as. -/
import Derived.Test.YtkijckccfookeaaGreatDoorRTe
import Derived.Test.YtkijckccfookeaaGreatDoorLinesT
import Derived.Test.YtkijckccfookeaaGreatDoorL00
import Derived.Test.YtkijckccfookeaaGreatDoorPParse
import Derived.Test.YtkijckccfookeaaGreatDoorL03
import Derived.Test.YtkijckccfookeaaGreatDoorL04
import Derived.Test.YtkijckccfookeaaGreatDoorL10
import Derived.Test.YtkijckccfookeaaGreatDoorL07
import Derived.Test.YtkijckccfookeaaGreatDoorProg
import Derived.BigQuiet
namespace Go.Proofs.YtkijckccfookeaaGreatDoor
open Go.RowKit

theorem parse_nl (s : B) : parseL (s ++ [10]) = parseL s := by
  have h : linesT (s ++ [10]) = linesT s := by
    rw [linesT_tl, linesT_tl, pcs_two, tl_app]
    have e : ∀ n, tl n (pcs []) = [] := fun n => rfl
    rw [e, List.append_nil]
  rw [parseL, parseL, h]
def hintW (n a : Int) : B := opB n ++ 58 :: itB a
theorem hintW_ok (n a : Int) (h1 : 1 ≤ n) (h2 : n ≤ 39) (h3 : N9 a) (e : Int) : eOp e (hintW n a) = e ∧ vOp (hintW n a) = ⟨n, a⟩ ∧ (hintW n a).count 58 ≤ 1 ∧ tokB (hintW n a) = true := by
  obtain ⟨f1, f2, f3⟩ := opB_facts n h1 h2
  have hc : ∀ d ∈ opB n, d ≠ 58 := fun d hd => (f3 d hd).1
  obtain ⟨c1, c2⟩ := cut_at (b := itB a) hc
  have hm : (opB n ++ 58 :: itB a).contains 58 = true := by simp
  have hn : ∀ d ∈ itB a, d ≠ 58 := fun d hd => (numC_tok (it_c _ d hd)).2.1
  rw [hintW, eOp, vOp, if_pos hm, if_pos hm, c1, c2, f1, (it_num a h3).2]
  refine ⟨?_, rfl, ?_, ?_⟩
  · rw [if_neg (by omega), eNum_ok _ h3]
  · rw [List.count_append, List.count_cons, count_none hc, count_none hn]
    simp
  · simp only [tokB, Bool.and_eq_true, Bool.not_eq_true', List.isEmpty_eq_false_iff, List.all_eq_true, List.mem_append, List.mem_cons]
    refine ⟨by simp, fun c hc => ?_⟩
    rcases hc with hc | rfl | hc
    · exact tokB_c f2 c hc
    · decide
    · exact (numC_tok (it_c _ c hc)).1
def hintG : Glyph := ⟨[97], 0, false, [], [], [], [], [], []⟩
def hintL (n a : Int) : List (List B) := [gyL hintG, [sHint, hintW n a]]
def hintF (n a : Int) : Fnt := ⟨0, [⟨[97], 0, false, [], [], [], [], [], [⟨n, a⟩]⟩], [], [], [], [], [], [], []⟩
theorem hint_gl (n a : Int) : gnames 0 (hintL n a) = [([97], 0)] := by
  have h1 : nameB [97] = true := by decide
  have h2 : ¬ (sHint = sGlyph) := by decide
  simp only [hintL, gyL, hintG, gnames, if_true, h1, if_neg h2, List.append_nil]
theorem hint_runs (n a : Int) (h1 : 1 ≤ n) (h2 : n ≤ 39) (h3 : N9 a) : Runs (gnames 0 (hintL n a)) ps0 (hintL n a) ⟨hintF n a, false, []⟩ := by
  rw [hint_gl]
  obtain ⟨k1, k2, k3, k4⟩ := hintW_ok n a h1 h2 h3 0
  refine .cons (ok_gyL (g := hintG) (by decide)) (st_gyL (g := hintG) (by decide) (by unfold N9; decide) rfl) (.one ?_ ?_)
  · exact tok_all2 (by decide) (fun w hw => by simp only [List.mem_singleton] at hw; subst hw; exact k4)
  · have hk : opsOk [hintW n a] = true := by
      unfold opsOk
      simpa using k3
    rw [st_hint, rHint, if_neg (gst_ne _ _ _), hk]
    simp only [List.foldl_cons, List.foldl_nil, k1, List.map_cons, List.map_nil, k2, onLast_gst]
    rfl
/-- the source of ParseOps -/
def hintSrc (n a : Int) : B := [103, 108, 121, 112, 104, 32, 97, 32, 48, 10, 104, 105, 110, 116, 32] ++ hintW n a
theorem parse_hint (n a : Int) (h1 : 1 ≤ n) (h2 : n ≤ 39) (h3 : N9 a) : parseL (hintSrc n a) = .ok (hintF n a) := by
  have e : hintSrc n a ++ [10] = (hintL n a).flatMap lnB := by
    have e0 : itB 0 = [48] := by decide +kernel
    simp [hintSrc, hintL, gyL, hintG, lnB, lineB, moreB, e0]
  rw [← parse_nl, e]
  exact parse_lines _ _ _ _ (hint_runs n a h1 h2 h3)
end Go.Proofs.YtkijckccfookeaaGreatDoor
/- fleuronref06: Has, Same. -/
namespace Go.Proofs.YtkijckccfookeaaGreatDoor
open Go.RowKit

theorem ints_at {w w' : World} {A : Option Addr} {n : Nat} {l : List Int} (h : Rd w w.heap.size A n 1 (cIs l)) (hb : Below w.heap.size w w') {k : Nat} (hk : k < n) : ∃ b o x, A = some ⟨b, o, none⟩ ∧ Hid (l[k]? = some x) ∧ w'.cell? ⟨b, o + k, none⟩ = some (.int .i64 x) := by
  obtain ⟨b, o, x, rfl, hbb, hx, q⟩ := h.atI hk
  exact ⟨b, o, x, rfl, hx, ((bcell hb).1 _ _ hbb).trans q⟩
set_option maxRecDepth 100000 in
set_option maxHeartbeats 4000000 in
theorem has_ok (w : World) (A : Option Addr) (n c : Nat) (l : List Int) (x : Int) (h : Rd w w.heap.size A n 1 (cIs l)) (hn : n ≤ 1000000000) :
    Calls Tryz.prog 30 #[.slice A n c, .int .i64 x] w fun e w' => e = .returned (.bool (decide (x ∈ l))) ∧ Below w.heap.size w w' := by
  have HL := Lib.hid h.lenI
  have HR := Lib.hid h
  clear h
  go_enter Tryz.func30, Tryz.ntmps30
  go_wp2_with fail
  go_loopw [5] (fun i wr => ∃ k : Nat, k ≤ n ∧ i = .int .i64 k ∧ Hid (x ∉ l.take k) ∧ w = wr) (fun i _ => n - (intOf i).toNat)
  case atStart => exact ⟨0, Nat.zero_le _, rfl, by show _ ∉ _; simp, rfl⟩
  case round =>
    obtain ⟨k, hk, rfl, hno, rfl⟩ := hrel
    by_cases hlt : k < n
    · obtain ⟨b, o, y, rfl, hy, q⟩ := ints_at HR.out (Below.refl _ _) hlt
      by_cases e : y = x
      · subst e
        have HM : Hid (decide (y ∈ l) = true) := by
          show _ = _
          exact decide_eq_true (List.mem_of_getElem? hy.out)
        go_wp2_with fail
        go_ret
        exact ⟨by rw [HM.out]; rfl, Below.refl _ _⟩
      · have e1 : (y == x) = false := by simpa using e
        have hno2 : Hid (x ∉ l.take (k + 1)) := by
          show _ ∉ _
          rw [List.take_add_one, hy.out, List.mem_append]
          rintro (h1 | h1)
          · exact hno.out h1
          · exact e (by simpa using h1 : x = y).symm
        go_wp2_with fail
        go_roundw
        case rel => exact ⟨k + 1, by omega, by simp, hno2, by simp⟩
        case measure => simp [intOf]; omega
    · have HM : Hid (decide (x ∈ l) = false) := by
        show _ = _
        have := hno.out
        rw [List.take_of_length_le (by rw [HL.out]; omega)] at this
        exact decide_eq_false this
      go_wp2_with fail
      go_ret
      exact ⟨by rw [HM.out]; rfl, Below.refl _ _⟩
set_option maxRecDepth 100000 in
set_option maxHeartbeats 4000000 in
theorem same06_ok (w : World) (A1 A2 : Option Addr) (n1 n2 c1 c2 : Nat) (l1 l2 : List Int) (h1 : Rd w w.heap.size A1 n1 1 (cIs l1)) (h2 : Rd w w.heap.size A2 n2 1 (cIs l2)) (hn : n1 ≤ 1000000000) :
    Calls Tryz.prog 32 #[.slice A1 n1 c1, .slice A2 n2 c2] w fun e w' => e = .returned (.bool (decide (l1 = l2))) ∧ Below w.heap.size w w' := by
  have HL1 := Lib.hid h1.lenI
  have HL2 := Lib.hid h2.lenI
  have HR1 := Lib.hid h1
  have HR2 := Lib.hid h2
  clear h1 h2
  by_cases hne : n1 = n2
  · subst hne
    go_enter Tryz.func32, Tryz.ntmps32
    go_wp2_with fail
    go_loopw [5] (fun i wr => ∃ k : Nat, k ≤ n1 ∧ i = .int .i64 k ∧ Hid (l1.take k = l2.take k) ∧ Below w.heap.size w wr) (fun i _ => n1 - (intOf i).toNat)
    case atStart => exact ⟨0, Nat.zero_le _, rfl, by show _ = _; simp, Below.refl _ _⟩
    case round =>
      obtain ⟨k, hk, rfl, hno, hb⟩ := hrel
      by_cases hlt : k < n1
      · obtain ⟨b, o, y, rfl, hy, q⟩ := ints_at HR1.out hb hlt
        obtain ⟨b2, o2, z, rfl, hz, q2⟩ := ints_at HR2.out hb hlt
        by_cases e : y = z
        · subst e
          have hno2 : Hid (l1.take (k + 1) = l2.take (k + 1)) := by
            show _ = _
            rw [List.take_add_one, hy.out, List.take_add_one, hz.out, hno.out]
          have HB := Lib.hid hb
          clear hb
          go_wp2_with fail
          go_quiet (fail)
          go_wp2_with fail
          go_roundw
          case rel => exact ⟨k + 1, by omega, by simp, hno2, below_drewN HB.out _⟩
          case measure => simp [intOf]; omega
        · have e1 : (y != z) = true := by simpa using e
          have HM : Hid (decide (l1 = l2) = false) := by
            show _ = _
            refine decide_eq_false fun h => ?_
            have := hy.out
            rw [h, hz.out] at this
            injection this with this
            exact e this.symm
          have HB := Lib.hid hb
          clear hb
          go_wp2_with fail
          go_quiet (fail)
          go_wp2_with fail
          go_ret
          exact ⟨by rw [HM.out]; rfl, below_drewN HB.out _⟩
      · have HM : Hid (decide (l1 = l2) = true) := by
          show _ = _
          have := hno.out
          rw [List.take_of_length_le (by rw [HL1.out]; omega), List.take_of_length_le (by rw [HL2.out]; omega)] at this
          exact decide_eq_true this
        go_wp2_with fail
        go_ret
        exact ⟨by rw [HM.out]; rfl, hb⟩
  · have HM : Hid (decide (l1 = l2) = false) := by
      show _ = _
      refine decide_eq_false fun h => hne ?_
      rw [← HL1.out, ← HL2.out, h]
    have e1 : ((n1 : Int) != n2) = true := by simp; omega
    go_enter Tryz.func32, Tryz.ntmps32
    go_wp2_with fail
    go_ret
    exact ⟨by rw [HM.out]; rfl, Below.refl _ _⟩
theorem same06_self (w : World) (A1 A2 : Option Addr) (n1 n2 c1 c2 : Nat) (l : List Int) (h1 : Rd w w.heap.size A1 n1 1 (cIs l)) (h2 : Rd w w.heap.size A2 n2 1 (cIs l)) (hn : n1 ≤ 1000000000) :
    Calls Tryz.prog 32 #[.slice A1 n1 c1, .slice A2 n2 c2] w fun e w' => e = .returned (.bool true) ∧ Below w.heap.size w w' := by
  have h := same06_ok w A1 A2 n1 n2 c1 c2 l l h1 h2 hn
  simpa using h
end Go.Proofs.YtkijckccfookeaaGreatDoor
/- fleuronref08: place, Ops, Op. -/
namespace Go.Proofs.YtkijckccfookeaaGreatDoor
open Go.RowKit

theorem kindN_atP {l : List B} {t : B} {k : Nat} (h : l[k]? = some t) (hno : t ∉ l.take k) : kindN l t = (k : Int) + 1 := by
  have hm : t ∈ l := List.mem_of_getElem? h
  rw [kindN, if_pos hm]
  have : l.findIdx (· == t) = k := by
    obtain ⟨hk, he⟩ := List.getElem?_eq_some_iff.1 h
    refine (List.findIdx_eq hk).2 ⟨by rw [he]; simp, fun j hj => ?_⟩
    have hj2 : j < l.length := by omega
    have : l[j] ∈ l.take k := by
      rw [List.mem_take_iff_getElem]
      exact ⟨j, by omega, rfl⟩
    simp only [beq_eq_false_iff_ne, ne_eq]
    intro e
    exact hno (e ▸ this)
  rw [this]
theorem kindN_no {l : List B} {t : B} (h : t ∉ l) : kindN l t = 0 := by rw [kindN, if_neg h]
theorem Rd.str {w : World} {Bd n : Nat} {A : Option Addr} {l : List B} (h : Rd w Bd A n 1 (strs l)) {k : Nat} (hk : k < n) : ∃ b o x, A = some ⟨b, o, none⟩ ∧ b < Bd ∧ Hid (l[k]? = some x) ∧ w.cell? ⟨b, o + k, none⟩ = some (.string ⟨x.toArray⟩) := by
  obtain ⟨b, o, e, hb, hc⟩ := h.2 (by omega)
  have hl := h.1
  rw [strs_len] at hl
  have hp : l[k]? = some (l[k]'(by omega)) := List.getElem?_eq_getElem (by omega)
  exact ⟨b, o, _, e, hb, hp, hc _ _ (strs_get hp)⟩
theorem Rd.lenS {w : World} {Bd n : Nat} {A : Option Addr} {l : List B} (h : Rd w Bd A n 1 (strs l)) : l.length = n := by
  have := h.1
  rw [strs_len] at this
  omega
set_option maxRecDepth 100000 in
set_option maxHeartbeats 4000000 in
theorem place_ok (w : World) (A : Option Addr) (n c : Nat) (l : List B) (x : B) (h : Rd w w.heap.size A n 1 (strs l)) (hn : n ≤ 1000000000) :
    Calls Tryz.prog 57 #[.slice A n c, .string ⟨x.toArray⟩] w fun e w' => e = .returned (.int .i64 (kindN l x - 1)) ∧ w = w' := by
  have HL := Lib.hid h.lenS
  have HR := Lib.hid h
  clear h
  go_enter Tryz.func57, Tryz.ntmps57
  go_wp2_with fail
  go_loopw [5] (fun i wr => ∃ k : Nat, k ≤ n ∧ i = .int .i64 k ∧ Hid (x ∉ l.take k) ∧ w = wr) (fun i _ => n - (intOf i).toNat)
  case atStart => exact ⟨0, Nat.zero_le _, rfl, by show _ ∉ _; simp, rfl⟩
  case round =>
    obtain ⟨k, hk, rfl, hno, rfl⟩ := hrel
    by_cases hlt : k < n
    · obtain ⟨b, o, y, rfl, -, hy, q⟩ := HR.out.str hlt
      by_cases e : y = x
      · subst e
        have HM : Hid (kindN l y - 1 = (k : Int)) := by
          show _ = _
          rw [kindN_atP hy.out hno.out]
          omega
        go_wp2_with fail
        go_ret
        exact ⟨by rw [HM.out]; rfl, rfl⟩
      · have e1 : (y == x) = false := by simpa using e
        have hno2 : Hid (x ∉ l.take (k + 1)) := by
          show _ ∉ _
          rw [List.take_add_one, hy.out, List.mem_append]
          rintro (h1 | h1)
          · exact hno.out h1
          · exact e (by simpa using h1 : x = y).symm
        go_wp2_with fail
        go_roundw
        case rel => exact ⟨k + 1, by omega, by simp, hno2, by simp⟩
        case measure => simp [intOf]; omega
    · have HM : Hid (kindN l x - 1 = -1) := by
        show _ = _
        have := hno.out
        rw [List.take_of_length_le (by rw [HL.out]; omega)] at this
        rw [kindN_no this]
        rfl
      go_wp2_with fail
      go_ret
      exact ⟨by rw [HM.out]; rfl, rfl⟩
set_option maxRecDepth 100000 in
set_option maxHeartbeats 4000000 in
theorem ops08_ok (w : World) : Calls Tryz.prog 27 #[] w fun e w' => e = .returned (.slice (some ⟨w.heap.size, 0, none⟩) 39 39) ∧ w' = w.alloc (.cells (strs opNames).toArray 9) := by
  go_enter Tryz.func27, Tryz.ntmps27
  go_wp2
  go_ret
  exact ⟨rfl, rfl⟩
theorem opN_kind (t : B) : opN t = kindN opNames t := rfl
set_option maxRecDepth 100000 in
set_option maxHeartbeats 4000000 in
theorem op08_ok (w : World) (t : B) : Calls Tryz.prog 26 #[.string ⟨t.toArray⟩] w fun e w' => e = .returned (.int .i64 (opN t)) ∧ Below w.heap.size w w' := by
  have hle : opNames.length = 39 := by decide
  have hk : 0 ≤ opN t ∧ opN t ≤ 39 := by
    rw [opN_kind]
    unfold kindN
    split
    · rename_i hm
      have := List.findIdx_lt_length_of_exists (p := (· == t)) ⟨t, hm, by simp⟩
      omega
    · omega
  have hs : (strs opNames).toArray.size = 39 * 1 := by simp [strs_len, hle]
  have hp := place_ok (w.alloc (.cells (strs opNames).toArray 9)) (some ⟨w.heap.size, 0, none⟩) 39 39 opNames t (by
    have := Rd.new w (strs opNames).toArray 9 39 1 hs
    simpa using this) (by omega)
  rw [← opN_kind] at hp
  have Hp := Lib.hid hp
  have hb : Below w.heap.size w (w.alloc (.cells (strs opNames).toArray 9)) := (Below.refl _ _).alloc (Nat.le_refl _) _
  have HB := Lib.hid hb
  clear hp hb hs hle
  generalize opN t = k at *
  go_enter Tryz.func26, Tryz.ntmps26
  go_wp2_with fail
  refine (ops08_ok w).mono ?_
  rintro e w1 ⟨rfl, rfl⟩
  go_wp2_with fail
  refine Hp.out.mono ?_
  rintro e w2 ⟨rfl, rfl⟩
  go_wp2_with fail
  go_ret
  exact ⟨by simp; omega, HB.out⟩
end Go.Proofs.YtkijckccfookeaaGreatDoor
/- Digits of numbers, as ref05's Decimal and ref07's digits make them. -/
namespace Go.Proofs.YtkijckccfookeaaGreatDoor
open Go.RowKit

theorem conv1 (w : World) (b : UInt8) : (convert 68 9 (.slice (some ⟨w.heap.size, 0, none⟩) 1 1)).run Tryz.prog (w.alloc (.cells #[.int .u8 b.toNat] 5)) = .ok (.string ⟨#[b]⟩) (w.alloc (.cells #[.int .u8 b.toNat] 5)) :=
  run_convert_bytes_back (w.alloc (.cells #[.int .u8 b.toNat] 5)) 68 9 5 ⟨w.heap.size, 0, none⟩ 1 [b] Tryz.underlying68 Tryz.underlying5 Tryz.underlying9 (fun j hj => by
    obtain rfl : j = 0 := by simpa using hj
    rw [addr_add]
    exact (Bk.new w 5 #[.int .u8 b.toNat]).cell 0)
theorem app_list (a b : B) : (ByteArray.mk a.toArray) ++ ⟨b.toArray⟩ = ⟨(a ++ b).toArray⟩ := by
  apply ByteArray.ext
  rw [ByteArray.data_append]
  apply Array.ext'
  simp
def dgB (n : Nat) : UInt8 := UInt8.ofNat (48 + n % 10)
theorem dgB_nat (n : Nat) : (dgB n).toNat = 48 + n % 10 := by
  rw [dgB, UInt8.toNat_ofNat']
  omega
def decB (u : Nat) : B := if _h : u < 10 then [dgB u] else decB (u / 10) ++ [dgB u]
termination_by u
decreasing_by omega
theorem conv2 (w : World) (n : Int) (u : Nat) (h : n = 48 + (u : Int) % 10) : (convert 68 9 (.slice (some ⟨w.heap.size, 0, none⟩) 1 1)).run Tryz.prog (w.alloc (.cells #[.int .u8 n] 5)) = .ok (.string ⟨#[dgB u]⟩) (w.alloc (.cells #[.int .u8 n] 5)) := by
  have := conv1 w (dgB u)
  rw [dgB_nat] at this
  rw [h]
  have e : (48 + (u : Int) % 10) = ((48 + u % 10 : Nat) : Int) := by omega
  rw [e]
  exact this
/-- the digits of a number; none of 0 -/
def decT (q : Nat) : B := if q = 0 then [] else decB q
theorem decT_pos (q : Nat) (h : 0 < q) : decT q = decT (q / 10) ++ [dgB q] := by
  rw [decT, if_neg (by omega), decB]
  split
  · rw [decT, if_pos (by omega)]; rfl
  · rw [decT, if_neg (by omega)]
theorem decB_split (U : Nat) : decB U = decT (U / 10) ++ [dgB U] := by
  rw [decB]
  split
  · rw [decT, if_pos (by omega)]; rfl
  · rw [decT, if_neg (by omega)]
theorem decB_len (k : Nat) : ∀ u, u < 10 ^ (k + 1) → (decB u).length ≤ k + 1 := by
  induction k with
  | zero =>
    intro u hu
    rw [decB, dif_pos (by simpa using hu)]
    simp
  | succ k ih =>
    intro u hu
    rw [decB]
    split
    · simp
    · have := ih (u / 10) (by rw [pow_step] at hu; omega)
      rw [List.length_append]
      simp
      omega
theorem decB_dec (u : Nat) : decB u = Lib.decDigits u := by
  induction u using Nat.strongRecOn with
  | _ u ih =>
    rw [decB, Lib.decDigits]
    split
    · rename_i h
      rw [dgB, Nat.mod_eq_of_lt h]
    · rw [ih (u / 10) (by omega)]
      rfl
end Go.Proofs.YtkijckccfookeaaGreatDoor
/- The contract of fleuronref05.Decimal. Printed out of wip/w. -/
namespace Go.Proofs.YtkijckccfookeaaGreatDoor
open Go.RowKit

theorem decB_nine (u : Nat) (h : u ≤ 999999999) : (decB u).length ≤ 9 := decB_len 8 u (by show u < 1000000000; omega)
theorem uwrap (U : Nat) (h0 : 1 ≤ U) (hU : U ≤ 999999999) : IntKind.u64.wrap (-IntKind.u64.wrap (-(U : Int))) = U := by
  simp [IntKind.wrap, IntKind.signed, IntKind.bits]
  omega
set_option maxRecDepth 100000 in
set_option maxHeartbeats 4000000 in
theorem decimal_pos (w : World) (U : Nat) (hU : U ≤ 999999999) : Calls Tryz.prog 28 #[.int .i64 U] w fun e w' => e = .returned (.string ⟨(decB U).toArray⟩) ∧ Below w.heap.size w w' := by
  have cv := fun w => conv2 w (48 + (U : Int) % 10) U rfl
  have hn0 : decide ((U : Int) < 0) = false := by simp
  go_enter Tryz.func28, Tryz.ntmps28
  go_wp2
  go_loopw [4, 5] (fun u o wr => ∃ (q : Nat) (out : B), u = .int .u64 q ∧ o = .string ⟨out.toArray⟩ ∧ Hid (decB U = decT q ++ out) ∧ q ≤ 999999999 ∧ Below w.heap.size w wr) (fun u _ _ => (intOf u).toNat)
  case atStart => exact ⟨U / 10, [dgB U], by simp, rfl, decB_split U, by omega, (Below.refl _ _).alloc (Nat.le_refl _) _⟩
  case round =>
    obtain ⟨q, out, rfl, rfl, hdec, hq, hbl⟩ := hrel
    have hol : out.length ≤ 9 := by
      have h1 := congrArg List.length hdec.out
      have h2 := decB_nine U hU
      rw [List.length_append] at h1
      omega
    clear cv
    by_cases h0 : 0 < q
    · have cv := fun w => conv2 w (48 + (q : Int) % 10) q rfl
      have hap : (ByteArray.mk #[dgB q]) ++ ⟨out.toArray⟩ = ⟨(dgB q :: out).toArray⟩ := app_list [dgB q] out
      have hdec2 : Hid (decB U = decT (q / 10) ++ (dgB q :: out)) := by
        show _ = _
        rw [hdec.out, decT_pos q h0]
        simp
      go_wp2
      go_roundw
      case rel => exact ⟨q / 10, dgB q :: out, by simp, rfl, hdec2, by omega, hbl.alloc hbl.size _⟩
      case measure => simp [intOf]; omega
    · obtain rfl : q = 0 := by omega
      have hz : Hid (decB U = out) := by
        show _ = _
        rw [hdec.out, decT, if_pos rfl, List.nil_append]
      have hap : (ByteArray.mk #[]) ++ ⟨out.toArray⟩ = ⟨out.toArray⟩ := app_list [] out
      go_wp2
      go_ret
      exact ⟨by rw [hz.out]; rfl, hbl⟩
set_option maxRecDepth 100000 in
set_option maxHeartbeats 4000000 in
theorem decimal_neg (w : World) (U : Nat) (h0 : 1 ≤ U) (hU : U ≤ 999999999) : Calls Tryz.prog 28 #[.int .i64 (-(U : Int))] w fun e w' => e = .returned (.string ⟨(45 :: decB U).toArray⟩) ∧ Below w.heap.size w w' := by
  have cv := fun w => conv2 w (48 + (U : Int) % 10) U rfl
  have hwr := uwrap U h0 hU
  have hn0 : decide (0 < U) = true := by simp; omega
  go_enter Tryz.func28, Tryz.ntmps28
  go_wp2
  clear hwr
  go_loopw [4, 5] (fun u o wr => ∃ (q : Nat) (out : B), u = .int .u64 q ∧ o = .string ⟨out.toArray⟩ ∧ Hid (decB U = decT q ++ out) ∧ q ≤ 999999999 ∧ Below w.heap.size w wr) (fun u _ _ => (intOf u).toNat)
  case atStart => exact ⟨U / 10, [dgB U], by simp, rfl, decB_split U, by omega, (Below.refl _ _).alloc (Nat.le_refl _) _⟩
  case round =>
    obtain ⟨q, out, rfl, rfl, hdec, hq, hbl⟩ := hrel
    have hol : out.length ≤ 9 := by
      have h1 := congrArg List.length hdec.out
      have h2 := decB_nine U hU
      rw [List.length_append] at h1
      omega
    clear cv
    by_cases h0 : 0 < q
    · have cv := fun w => conv2 w (48 + (q : Int) % 10) q rfl
      have hap : (ByteArray.mk #[dgB q]) ++ ⟨out.toArray⟩ = ⟨(dgB q :: out).toArray⟩ := app_list [dgB q] out
      have hdec2 : Hid (decB U = decT (q / 10) ++ (dgB q :: out)) := by
        show _ = _
        rw [hdec.out, decT_pos q h0]
        simp
      go_wp2
      go_roundw
      case rel => exact ⟨q / 10, dgB q :: out, by simp, rfl, hdec2, by omega, hbl.alloc hbl.size _⟩
      case measure => simp [intOf]; omega
    · obtain rfl : q = 0 := by omega
      have hz : Hid (decB U = out) := by
        show _ = _
        rw [hdec.out, decT, if_pos rfl, List.nil_append]
      have hap : (ByteArray.mk #[45]) ++ ⟨out.toArray⟩ = ⟨(45 :: out).toArray⟩ := app_list [45] out
      go_wp2
      go_ret
      exact ⟨by rw [hz.out]; rfl, hbl⟩
theorem decimal_ok (w : World) (n : Int) (h : N9 n) : Calls Tryz.prog 28 #[.int .i64 n] w fun e w' => e = .returned (.string ⟨(itB n).toArray⟩) ∧ Below w.heap.size w w' := by
  unfold N9 at h
  by_cases h0 : n < 0
  · have e1 : n = -((n.natAbs : Nat) : Int) := by omega
    have e2 : itB n = 45 :: decB n.natAbs := by rw [itB, Lib.itoa, if_pos h0, decB_dec]
    rw [e2]
    conv => arg 3; rw [e1]
    exact decimal_neg w n.natAbs (by omega) (by omega)
  · have e1 : n = ((n.toNat : Nat) : Int) := by omega
    have e2 : itB n = decB n.toNat := by rw [itB, Lib.itoa, if_neg h0, decB_dec]
    rw [e2]
    conv => arg 3; rw [e1]
    exact decimal_pos w n.toNat (by omega)
end Go.Proofs.YtkijckccfookeaaGreatDoor
