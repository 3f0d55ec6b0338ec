/- strings.Cut, CutPrefix, CutSuffix, Index, Count at signs of one byte. -/
import Derived.Test.YtkijckccfookeaaGreatDoorM07
import Derived.Test.YtkijckccfookeaaGreatDoorShelf
import Derived.Test.YtkijckccfookeaaGreatDoorM09
import Derived.Deep.QuietTactic
import Derived.BigQuiet
import Derived.Outline
namespace Go.Proofs.YtkijckccfookeaaGreatDoor
open Go.RowKit

theorem ix_no (s : B) (c : UInt8) (h : s.contains c = false) : Lib.indexByte s c = -1 := by
  induction s with
  | nil => rfl
  | cons d r ih =>
    rw [List.contains_cons, Bool.or_eq_false_iff] at h
    have h1 : (d == c) = false := by
      have := h.1
      simp only [beq_eq_false_iff_ne, ne_eq] at this ⊢
      exact fun e => this e.symm
    rw [Lib.indexByte, h1, ih h.2]
    rfl
theorem ix_yes (s : B) (c : UInt8) (h : s.contains c = true) : Lib.indexByte s c = ((cutL c s).length : Int) ∧ s = cutL c s ++ c :: cutR c s := by
  induction s with
  | nil => simp at h
  | cons d r ih =>
    by_cases hd : d = c
    · subst hd
      simp [Lib.indexByte, cutL, cutR]
    · have h1 : (d == c) = false := by simpa using hd
      have h2 : r.contains c = true := by
        rw [List.contains_cons, Bool.or_eq_true] at h
        rcases h with h | h
        · exact absurd (beq_iff_eq.1 h).symm hd
        · exact h
      obtain ⟨e1, e2⟩ := ih h2
      have p1 : cutL c (d :: r) = d :: cutL c r := by
        show List.takeWhile (· != c) (d :: r) = _
        rw [List.takeWhile_cons_of_pos (p := fun x => x != c) (by simpa using hd)]
        rfl
      have p2 : cutR c (d :: r) = cutR c r := by
        show (List.dropWhile (· != c) (d :: r)).drop 1 = _
        rw [List.dropWhile_cons_of_pos (p := fun x => x != c) (by simpa using hd)]
        rfl
      have hne : (Lib.indexByte r c == -1) = false := by rw [e1]; simp
      rw [Lib.indexByte, h1, p1, p2, hne, e1]
      refine ⟨by simp, ?_⟩
      rw [List.cons_append, ← e2]
theorem ext_l (a b : B) (c : UInt8) : (ByteArray.mk (a ++ c :: b).toArray).extract 0 a.length = ⟨a.toArray⟩ := by
  rw [extract_list]
  simp
theorem ext_r (a b : B) (c : UInt8) : (ByteArray.mk (a ++ c :: b).toArray).extract (a.length + 1) (a ++ c :: b).length = ⟨b.toArray⟩ := by
  rw [extract_list, List.take_length, List.drop_append, List.drop_eq_nil_of_le (by omega), show a.length + 1 - a.length = 1 by omega]
  rfl
/-- does a sign stand in a text? (a word of its own, that the walk does not open) -/
def hasB (c : UInt8) (s : B) : Bool := s.contains c
set_option maxRecDepth 100000 in
set_option maxHeartbeats 2000000 in
theorem slCut_ok (w : World) (s : B) (c : UInt8) (hs : s.length ≤ 1000000) : Calls Tryz.prog 183 #[.string ⟨s.toArray⟩, .string ⟨#[c]⟩] w fun e w' => e = .returned (.tuple #[.string ⟨(cutL c s).toArray⟩, .string ⟨(cutR c s).toArray⟩, .bool (hasB c s)]) ∧ ∃ n, w' = w.drewN n := by
  cases hc : hasB c s with
  | false =>
    have hi := Lib.hid (ix_no s c hc)
    have hn : Hid (cutL c s = s ∧ cutR c s = []) := by
      refine cut_no (fun d hd e => ?_)
      subst e
      rw [← Bool.not_eq_true, hasB] at hc
      exact hc (List.contains_iff_mem.2 hd)
    clear hc
    go_enter Tryz.func183, Tryz.ntmps183
    go_wp2_with (go_at_call 180; refine (Tryz.stringslite_Index_one ⟨s.toArray⟩ c _).mono ?_; rintro e w' ⟨rfl, rfl⟩; rw [show (Lib.indexByte (ByteArray.mk s.toArray).data.toList c) = -1 from hi.out])
    go_ret3
    rw [hn.out.1, hn.out.2]
    exact ⟨rfl, 0, rfl⟩
  | true =>
    obtain ⟨h1, h2⟩ := ix_yes s c hc
    have hl : s.length = (cutL c s).length + (cutR c s).length + 1 := by
      conv => lhs; rw [h2]
      simp
      omega
    have hx1 := ext_l (cutL c s) (cutR c s) c
    have hx2 := ext_r (cutL c s) (cutR c s) c
    rw [← h2] at hx1 hx2
    have hi := Lib.hid h1
    clear h1 h2 hc
    generalize cutL c s = a at *
    generalize cutR c s = b at *
    have b0 : (0 : Int) ≤ (a.length : Int) := by omega
    have b1 : (a.length : Int) ≤ (s.length : Int) := by omega
    have b2 : (a.length : Int) + 1 ≤ (s.length : Int) := by omega
    have b3 : (0 : Int) ≤ (a.length : Int) + 1 := by omega
    have b4 : a.length + 1 ≤ s.length := by omega
    clear hl
    go_enter Tryz.func183, Tryz.ntmps183
    go_wp2_with (go_at_call 180; refine (Tryz.stringslite_Index_one ⟨s.toArray⟩ c _).mono ?_; rintro e w' ⟨rfl, rfl⟩; rw [show (Lib.indexByte (ByteArray.mk s.toArray).data.toList c) = (a.length : Int) from hi.out])
    go_quiet (fail)
    go_wp2
    go_ret3
    exact ⟨rfl, _, rfl⟩
set_option maxRecDepth 100000 in
set_option maxHeartbeats 2000000 in
theorem cut_ok (w : World) (s : B) (c : UInt8) (hs : s.length ≤ 1000000) : Calls Tryz.prog 168 #[.string ⟨s.toArray⟩, .string ⟨#[c]⟩] w fun e w' => e = .returned (.tuple #[.string ⟨(cutL c s).toArray⟩, .string ⟨(cutR c s).toArray⟩, .bool (hasB c s)]) ∧ ∃ n, w' = w.drewN n := by
  have hc := Lib.hid (slCut_ok w s c hs)
  clear hs
  go_enter Tryz.func168, Tryz.ntmps168
  go_wp2_with (go_at_call 183; refine hc.out.mono ?_; rintro e w' ⟨rfl, n, rfl⟩)
  go_ret3
  exact ⟨rfl, n, rfl⟩
end Go.Proofs.YtkijckccfookeaaGreatDoor
/- parse: which words may stand: areOps, arePoints, areCalls. -/
namespace Go.Proofs.YtkijckccfookeaaGreatDoor
open Go.RowKit

theorem count_ok (w : World) (s : B) (c : UInt8) : Calls Tryz.prog 167 #[.string ⟨s.toArray⟩, .string ⟨#[c]⟩] w fun e w' => e = .returned (.int .i64 ((Lib.countByte s c : Nat) : Int)) ∧ w = w' :=
  (Tryz.strings_Count_one ⟨s.toArray⟩ c w).mono fun _ _ ⟨h1, h2⟩ => ⟨h1, h2.symm⟩
theorem index_ok (w : World) (s : B) (c : UInt8) : Calls Tryz.prog 162 #[.string ⟨s.toArray⟩, .string ⟨#[c]⟩] w fun e w' => e = .returned (.int .i64 (Lib.indexByte s c)) ∧ w = w' :=
  (Tryz.strings_Index_one ⟨s.toArray⟩ c w).mono fun _ _ ⟨h1, h2⟩ => ⟨h1, h2.symm⟩
def opW (t : B) : Bool := decide (t.count 58 ≤ 1)
def callW (t : B) : Bool := t.count 58 == 1
set_option maxHeartbeats 1000000 in
theorem areOps1_ok (w : World) (t : B) : Calls Tryz.prog 166 #[.string ⟨t.toArray⟩] w fun e w' => e = .returned (.bool (opW t)) ∧ w = w' := by
  have hd : Hid (decide (((Lib.countByte t 58 : Nat) : Int) ≤ 1) = opW t) := by
    show _ = _
    rw [opW, Lib.countByte]
    exact decide_eq_decide.2 (by omega)
  go_enter Tryz.func166, Tryz.ntmps166
  go_wp2_with (go_at_call 167; refine (count_ok _ t 58).mono ?_; rintro e w' ⟨rfl, rfl⟩)
  go_ret
  exact ⟨by rw [← hd.out]; simp, rfl⟩
set_option maxHeartbeats 1000000 in
theorem areCalls1_ok (w : World) (t : B) : Calls Tryz.prog 186 #[.string ⟨t.toArray⟩] w fun e w' => e = .returned (.bool (callW t)) ∧ w = w' := by
  have hd : Hid ((((Lib.countByte t 58 : Nat) : Int) == 1) = callW t) := by
    show _ = _
    rw [callW, Lib.countByte, Bool.eq_iff_iff, beq_iff_eq, beq_iff_eq]
    omega
  go_enter Tryz.func186, Tryz.ntmps186
  go_wp2_with (go_at_call 167; refine (count_ok _ t 58).mono ?_; rintro e w' ⟨rfl, rfl⟩)
  go_ret
  exact ⟨by rw [← hd.out]; try simp, rfl⟩
theorem cutL_not (s : B) (c : UInt8) : c ∉ cutL c s := by
  induction s with
  | nil => simp [cutL]
  | cons d r ih =>
    by_cases hd : d = c
    · subst hd; simp [cutL]
    · have : cutL c (d :: r) = d :: cutL c r := by
        show List.takeWhile (· != c) (d :: r) = _
        rw [List.takeWhile_cons_of_pos (p := fun x => x != c) (by simpa using hd)]
        rfl
      rw [this, List.mem_cons]
      rintro (e | e)
      · exact hd e.symm
      · exact ih e
theorem idx_cut (s : B) (c : UInt8) (h : hasB c s = true) : s.idxOf c = (cutL c s).length := by
  obtain ⟨h1, h2⟩ := ix_yes s c h
  have hn := cutL_not s c
  conv => lhs; rw [h2]
  rw [List.idxOf_append, if_neg hn]
  simp
set_option maxHeartbeats 2000000 in
theorem arePoints1_ok (w : World) (t : B) (ht : t.length ≤ 1000000) : Calls Tryz.prog 170 #[.string ⟨t.toArray⟩] w fun e w' => e = .returned (.bool (ptOk t)) ∧ w = w' := by
  have hge := Lib.indexByte_ge t 42
  by_cases hc : Lib.countByte t 44 = 1
  · have hc1 : t.count 44 = 1 := hc
    cases hs : hasB 42 t with
    | false =>
      have hi := Lib.hid (ix_no t 42 hs)
      have hp : Hid (ptOk t = true) := by
        show _ = _
        have : t.contains 42 = false := hs
        rw [ptOk, hc1, this]
        rfl
      have HC := Lib.hid hc
      clear hc hc1 hs hge ht
      go_enter Tryz.func170, Tryz.ntmps170
      go_wp2_with (first
        | (go_at_call 162; refine (index_ok _ t 42).mono ?_; rintro e w' ⟨rfl, rfl⟩; rw [hi.out])
        | (go_at_call 167; refine (count_ok _ t 44).mono ?_; rintro e w' ⟨rfl, rfl⟩; rw [HC.out]))
      go_ret
      exact ⟨by rw [hp.out]; rfl, rfl⟩
    | true =>
      obtain ⟨h1, h2⟩ := ix_yes t 42 hs
      have hi := Lib.hid h1
      have hx := idx_cut t 42 hs
      have hlt : (cutL 42 t).length < t.length := by
        conv => rhs; rw [h2]
        simp
      have HC := Lib.hid hc
      have hcon : t.contains 42 = true := hs
      by_cases he : (cutL 42 t).length + 1 = t.length
      · have hp : Hid (ptOk t = true) := by
          show _ = _
          rw [ptOk, hc1, hcon, hx]
          simp
          omega
        have e1 : (((cutL 42 t).length : Int) == (t.length : Int) - 1) = true := by simp; omega
        clear hc hc1 hs h1 h2 hx hge he hcon
        generalize (cutL 42 t).length = a at *
        go_enter Tryz.func170, Tryz.ntmps170
        go_wp2_with (first
          | (go_at_call 162; refine (index_ok _ t 42).mono ?_; rintro e w' ⟨rfl, rfl⟩; rw [hi.out])
          | (go_at_call 167; refine (count_ok _ t 44).mono ?_; rintro e w' ⟨rfl, rfl⟩; rw [HC.out]))
        go_ret
        exact ⟨by rw [hp.out]; rfl, rfl⟩
      · have hp : Hid (ptOk t = false) := by
          show _ = _
          rw [ptOk, hc1, hcon, hx]
          simp
          omega
        have e1 : (((cutL 42 t).length : Int) == (t.length : Int) - 1) = false := by simp; omega
        clear hc hc1 hs h1 h2 hx hge he hcon
        generalize (cutL 42 t).length = a at *
        go_enter Tryz.func170, Tryz.ntmps170
        go_wp2_with (first
          | (go_at_call 162; refine (index_ok _ t 42).mono ?_; rintro e w' ⟨rfl, rfl⟩; rw [hi.out])
          | (go_at_call 167; refine (count_ok _ t 44).mono ?_; rintro e w' ⟨rfl, rfl⟩; rw [HC.out]))
        go_ret
        exact ⟨by rw [hp.out]; rfl, rfl⟩
  · have hp : Hid (ptOk t = false) := by
      show _ = _
      have : (t.count 44 == 1) = false := by simpa [Lib.countByte] using hc
      rw [ptOk, this]
      rfl
    have e1 : (((Lib.countByte t 44 : Nat) : Int) == 1) = false := by simp; omega
    clear hc
    generalize Lib.indexByte t 42 = z at *
    go_enter Tryz.func170, Tryz.ntmps170
    go_wp2_with (first
      | (go_at_call 162; refine (index_ok _ t 42).mono ?_; rintro e w' ⟨rfl, rfl⟩)
      | (go_at_call 167; refine (count_ok _ t 44).mono ?_; rintro e w' ⟨rfl, rfl⟩))
    go_ret
    exact ⟨by rw [hp.out]; rfl, rfl⟩
/-- a word's text, at its place -/
theorem c3s_word {ws : List P3} {k : Nat} {x y : Int} {z : B} (h : ws[k]? = some (x, y, z)) : (x, y, z) ∈ ws := List.mem_of_getElem? h
theorem all_take (ws : List P3) (pr : B → Bool) (k : Nat) (x y : Int) (z : B) (h : ws[k]? = some (x, y, z)) (ha : (ws.take k).all (fun x => pr x.2.2) = true) : (ws.take (k + 1)).all (fun x => pr x.2.2) = pr z := by
  obtain ⟨hk, hg⟩ := List.getElem?_eq_some_iff.1 h
  rw [List.take_succ_eq_append_getElem hk, List.all_append, ha, hg]
  simp
theorem all_no (ws : List P3) (pr : B → Bool) (k : Nat) (x y : Int) (z : B) (h : ws[k]? = some (x, y, z)) (hz : pr z = false) : ws.all (fun x => pr x.2.2) = false := by
  rw [List.all_eq_false]
  exact ⟨_, List.mem_of_getElem? h, by simpa using hz⟩
set_option maxRecDepth 100000 in
set_option maxHeartbeats 2000000 in
theorem allWords_ok (F : Nat) (pr : B → Bool) (hE : ∀ (args : Array Value) (w : World), (callFunc F args).run Tryz.prog w = .ok (.enter F args) w) (hF : ∀ (w : World) (t : B), t.length ≤ 1000000 → Calls Tryz.prog F #[.string ⟨t.toArray⟩] w fun e w' => e = .returned (.bool (pr t)) ∧ w = w')
    (w : World) (A : Option Addr) (n c : Nat) (ws : List P3) (hr : RdT w 124 A n 3 (c3s ws)) (hl : ∀ x ∈ ws, x.2.2.length ≤ 1000000) (hn : n ≤ 1000000000) :
    Calls Tryz.prog 165 #[.slice A n c, .func (.func F) #[] #[]] w fun e w' => e = .returned (.bool (ws.all (fun x => pr x.2.2))) ∧ Below w.heap.size w w' := by
  have hwl := Lib.hid hr.rd.len3
  go_enter Tryz.func165, Tryz.ntmps165
  go_wp2
  go_loopw [9] (fun i wr => ∃ k : Nat, k ≤ n ∧ i = .int .i64 k ∧ Hid ((ws.take k).all (fun x => pr x.2.2) = true) ∧ Below w.heap.size w wr) (fun i _ => n - (intOf i).toNat)
  case atStart => exact ⟨0, Nat.zero_le _, rfl, rfl, Below.refl _ _⟩
  case round =>
    obtain ⟨k, hk, rfl, hall, hbl⟩ := hrel
    by_cases hlt : k < n
    · obtain ⟨b, o, x, y, z, rfl, hbB, hp, q1, q2, q3⟩ := (hr.below hbl).rd.at3 hlt
      have hz : z.length ≤ 1000000 := hl _ (c3s_word hp.out)
      have hF1 := Lib.hid (fun w => hF w z hz)
      cases hpr : pr z with
      | true =>
        have hs := Lib.hid ((all_take ws pr k x y z hp.out hall.out).trans hpr)
        have hpr := Lib.hid hpr
        clear hz hp hall hF hl
        go_wp2_with (refine (hF1.out _).mono ?_; rintro e w' ⟨rfl, rfl⟩; rw [hpr.out])
        go_roundw
        case rel => exact ⟨k + 1, by omega, by simp, hs.out, hbl.alloc hbl.size _⟩
        case measure => simp [intOf]; omega
      | false =>
        have hs := Lib.hid (all_no ws pr k x y z hp.out hpr)
        have hpr := Lib.hid hpr
        clear hz hp hall hF hl
        go_wp2_with (refine (hF1.out _).mono ?_; rintro e w' ⟨rfl, rfl⟩; rw [hpr.out])
        go_ret
        exact ⟨by rw [hs.out]; rfl, hbl.alloc hbl.size _⟩
    · obtain rfl : k = n := by omega
      have hs : Hid (ws.all (fun x => pr x.2.2) = true) := by
        show _ = _
        have := hall.out
        rwa [List.take_of_length_le (by rw [hwl.out]; exact Nat.le_refl _)] at this
      go_wp2
      go_ret
      exact ⟨by rw [hs.out]; rfl, hbl⟩
theorem areOps_ok (w : World) (A : Option Addr) (n c : Nat) (ws : List P3) (hr : RdT w 124 A n 3 (c3s ws)) (hl : ∀ x ∈ ws, x.2.2.length ≤ 1000000) (hn : n ≤ 1000000000) :
    Calls Tryz.prog 125 #[.slice A n c] w fun e w' => e = .returned (.bool (ws.all (fun x => opW x.2.2))) ∧ Below w.heap.size w w' := by
  have hc := Lib.hid (allWords_ok 166 opW (fun _ _ => enters_of Tryz.func166 (by kernel_rfl) rfl _ _) (fun w t _ => areOps1_ok w t) w A n c ws hr hl hn)
  clear hr hl hn
  go_enter Tryz.func125, Tryz.ntmps125
  go_wp2_with (go_at_call 165; refine hc.out.mono ?_; rintro e w' ⟨rfl, hb⟩)
  go_ret
  exact ⟨rfl, hb⟩
theorem areCalls_ok (w : World) (A : Option Addr) (n c : Nat) (ws : List P3) (hr : RdT w 124 A n 3 (c3s ws)) (hl : ∀ x ∈ ws, x.2.2.length ≤ 1000000) (hn : n ≤ 1000000000) :
    Calls Tryz.prog 172 #[.slice A n c] w fun e w' => e = .returned (.bool (ws.all (fun x => callW x.2.2))) ∧ Below w.heap.size w w' := by
  have hc := Lib.hid (allWords_ok 186 callW (fun _ _ => enters_of Tryz.func186 (by kernel_rfl) rfl _ _) (fun w t _ => areCalls1_ok w t) w A n c ws hr hl hn)
  clear hr hl hn
  go_enter Tryz.func172, Tryz.ntmps172
  go_wp2_with (go_at_call 165; refine hc.out.mono ?_; rintro e w' ⟨rfl, hb⟩)
  go_ret
  exact ⟨rfl, hb⟩
theorem arePoints_ok (w : World) (A : Option Addr) (n c : Nat) (ws : List P3) (hr : RdT w 124 A n 3 (c3s ws)) (hl : ∀ x ∈ ws, x.2.2.length ≤ 1000000) (hn : n ≤ 1000000000) :
    Calls Tryz.prog 130 #[.slice A n c] w fun e w' => e = .returned (.bool (ws.all (fun x => ptOk x.2.2))) ∧ Below w.heap.size w w' := by
  have hc := Lib.hid (allWords_ok 170 ptOk (fun _ _ => enters_of Tryz.func170 (by kernel_rfl) rfl _ _) (fun w t ht => arePoints1_ok w t ht) w A n c ws hr hl hn)
  clear hr hl hn
  go_enter Tryz.func130, Tryz.ntmps130
  go_wp2_with (go_at_call 165; refine hc.out.mono ?_; rintro e w' ⟨rfl, hb⟩)
  go_ret
  exact ⟨rfl, hb⟩
end Go.Proofs.YtkijckccfookeaaGreatDoor
