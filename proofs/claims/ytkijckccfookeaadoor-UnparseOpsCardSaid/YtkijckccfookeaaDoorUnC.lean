/- unparse: instructions, sets. -/
import Derived.Test.YtkijckccfookeaaDoorUnB
namespace Go.Proofs.YtkijckccfookeaaDoor
open Go.RowKit Go.Sort

theorem opB_len (n : Int) : (opB n).length ≤ 6 := by
  unfold opB pick
  split
  · simp
  · have : ∀ s ∈ opNames, s.length ≤ 6 := by decide
    cases h : opNames[(n - 1).toNat]? with
    | none => simp
    | some s => exact this s (List.mem_of_getElem? h)
theorem insB_zero (x : Ins) (h : x.a = 0) : insB x = opB x.op := by simp [insB, h]
theorem insB_some (x : Ins) (h : x.a ≠ 0) : insB x = opB x.op ++ 58 :: itB x.a := by simp [insB, h]
set_option maxHeartbeats 2000000 in
theorem instructions_ok (w : World) (A : Option Addr) (c : Nat) (l : List Ins) (hT : Tabs w) (hA : Sl InsR 2 w (FT w) A l) (hl : l.length ≤ 100000000000) :
    Calls Tryd.prog 24 #[.slice A l.length c] w (RetS w (l.map insB)) := by
  go_enter Tryd.func24, Tryd.ntmps24
  go_wp2
  go_loopw [3, 9] (fun v i wr => ∃ k : Nat, k ≤ l.length ∧ i = .int .i64 k ∧ RowS w ((l.take k).map insB) v wr) (fun _ i _ => l.length - (intOf i).toNat)
  case atStart => exact ⟨0, Nat.zero_le _, rfl, by simpa using RowS.nil w⟩
  case round =>
    obtain ⟨k, hk, rfl, A3, c3, rfl, hown, hbl⟩ := hrel
    have hlk : ((l.take k).map insB).length = k := by simp; omega
    by_cases hlt : k < l.length
    · obtain ⟨b, o, x, rfl, -, hx, q0, q1, r0, r1⟩ := ((KP.below hbl).sl InsR.ok hA).ins hlt
      have HS := Lib.hid (map_take_snoc insB l k x hx.out)
      have HL := Lib.hid hlk
      generalize hws : (l.take k).map insB = ws at *
      have s0 := hbl.size
      have hll : ws.length ≤ 1000000000000 := by rw [HL.out]; omega
      have hb0 : Below wr.heap.size wr (wr.alloc (.cells #[.int .i64 x.op, .int .i64 x.a] 72)) := (Below.refl _ _).alloc (Nat.le_refl _) _
      have hT1 : Tabs (wr.alloc (.cells #[.int .i64 x.op, .int .i64 x.a] 72)) := (hT.all hbl).all hb0
      have ho := Lib.hid (op_ok _ x.op hT1)
      have hn := Lib.hid (number_ok _ x.a hT1 r1)
      have Hb0 := Lib.hid hb0
      have hol := opB_len x.op
      have hil := itB_len r1
      by_cases h0 : x.a = 0
      · have HI := Lib.hid (insB_zero x h0)
        have e1 : (x.a == 0) = true := by simp [h0]
        have e2 : (x.a != 0) = false := by simp [h0]
        clear hb0 hx r0 r1 hws hlk hT1 h0 hn
        go_wp2_with (first
          | (go_at_call 13; refine ho.out.mono ?_; rintro e w' ⟨rfl, rfl⟩)
          | (at_builtin; refine push_strA rfl (.tmp 25) (.tmp 27) rfl _ (wr.heap.size + 1) (World.size_alloc _ _) w.heap.size ws.length c3 A3 (strs ws) (opB x.op) rfl rfl (hown.alloc _) hll (by simp; omega) ?_; intro A4 c4 w2 ho2 hg2))
        go_roundw
        case rel => exact ⟨k + 1, by omega, by simp, RowS.next hbl Hb0.out hown (us := [opB x.op]) ho2 hg2 (by rw [HS.out, HI.out])⟩
        case measure => simp [intOf]; omega
      · have HI := Lib.hid (insB_some x h0)
        have e1 : (x.a == 0) = false := by simp [h0]
        have e2 : (x.a != 0) = true := by simp [h0]
        have a1 : (ByteArray.mk #[58]) ++ ⟨(itB x.a).toArray⟩ = ⟨(58 :: itB x.a).toArray⟩ := app_str_bytes [58] _
        have a2 : (ByteArray.mk (opB x.op).toArray) ++ ⟨(58 :: itB x.a).toArray⟩ = ⟨(opB x.op ++ 58 :: itB x.a).toArray⟩ := app_str_bytes _ _
        clear hb0 hx r0 r1 hws hlk hT1 h0
        go_wp2_with (first
          | (go_at_call 13; refine ho.out.mono ?_; rintro e w' ⟨rfl, rfl⟩)
          | (go_at_call 21; refine hn.out.mono ?_; rintro e w1 ⟨rfl, hb1⟩; have hb2 : Below wr.heap.size wr w1 := Hb0.out.trans (hb1.mono Hb0.out.size); have s1 := hb2.size)
          | (at_builtin; refine push_str rfl (.tmp 25) (.tmp 27) rfl _ w.heap.size ws.length c3 A3 (strs ws) (opB x.op ++ 58 :: itB x.a) rfl rfl (own_below hown hb2) hll (by omega) ?_; intro A4 c4 w2 ho2 hg2))
        go_roundw
        case rel => exact ⟨k + 1, by omega, by simp, RowS.next hbl hb2 hown (us := [opB x.op ++ 58 :: itB x.a]) ho2 hg2 (by rw [HS.out, HI.out])⟩
        case measure => simp [intOf]; omega
    · obtain rfl : k = l.length := by omega
      have HL : Hid ((l.take l.length).map insB = l.map insB) := by show _ = _; rw [List.take_length]
      generalize hws : (l.take l.length).map insB = ws at *
      clear hws hlk
      go_wp2
      go_ret
      rw [← HL.out]
      exact ⟨A3, c3, rfl, hown, hbl⟩
theorem setW_one (gs : List Glyph) (n : Int) : setW gs [n] = [gnB gs n] := rfl
theorem setW_more (gs : List Glyph) (l : List Int) (h : l.length ≠ 1) : setW gs l = [91] :: l.map (gnB gs) ++ [[93]] := by
  unfold setW
  split
  · simp at h
  · rfl
theorem setW_le (gs : List Glyph) (l : List Int) : (setW gs l).length ≤ l.length + 2 := by
  by_cases h : l.length = 1
  · match l, h with
    | [n], _ => simp [setW]
  · rw [setW_more gs l h]; simp
theorem flat_take_le {α : Type} (f : α → List B) (l : List α) (k : Nat) : ((l.take k).flatMap f).length ≤ (l.flatMap f).length := by
  conv => rhs; rw [← List.take_append_drop k l]
  simp only [List.flatMap_append, List.length_append]
  omega
theorem flat_take_succ_le {α : Type} (f : α → List B) (l : List α) (k : Nat) (x : α) (h : l[k]? = some x) : ((l.take k).flatMap f).length + (f x).length ≤ (l.flatMap f).length := by
  have := flat_take_le f l (k + 1)
  rw [flat_take_snoc f l k x h, List.length_append] at this
  exact this
set_option maxHeartbeats 4000000 in
theorem sets_ok' (w : World) (g : Nat) (gs : List Glyph) (A : Option Addr) (c : Nat) (l : List (List Int)) (hT : Tabs w) (hP : PN w g gs) (hgl : gs.length ≤ 1000000000000) (hA : Sl RowR 1 w (FT w) A l) (hl : l.length ≤ 100000000000) (hsl : (setsW gs l).length ≤ 10000000000) :
    Calls Tryd.prog 71 #[.pointer (some ⟨g, 0, none⟩), .slice A l.length c] w (RetS w (setsW gs l)) := by
  go_enter Tryd.func71, Tryd.ntmps71
  go_wp2
  go_loopw [5, 10] (fun v i wr => ∃ k : Nat, k ≤ l.length ∧ i = .int .i64 k ∧ RowS w ((l.take k).flatMap (setW gs)) v wr) (fun _ i _ => l.length - (intOf i).toNat)
  case atStart => exact ⟨0, Nat.zero_le _, rfl, by simpa using RowS.nil w⟩
  case round =>
    obtain ⟨k, hk, rfl, A3, c3, rfl, hown, hbl⟩ := hrel
    by_cases hlt : k < l.length
    · obtain ⟨b, o, x, A1, c1, rfl, -, hx, q9, hA0⟩ := hA.row hlt
      have q0 := cellB hbl q9
      have hA1 := (KP.below hbl).sl IntR.ok hA0
      have HS := Lib.hid (flat_take_snoc (setW gs) l k x hx.out)
      have hwl := flat_take_succ_le (setW gs) l k x hx.out
      have hl2 : (l.flatMap (setW gs)).length ≤ 10000000000 := hsl
      generalize hws : (l.take k).flatMap (setW gs) = ws at *
      have s0 := hbl.size
      by_cases h1 : x.length = 1
      · obtain ⟨n, rfl⟩ : ∃ n, x = [n] := by
          match x, h1 with
          | [n], _ => exact ⟨n, rfl⟩
        obtain ⟨b1, o1, y, rfl, -, hy, q1, r1⟩ := hA1.int (k := 0) (by simp)
        obtain rfl : n = y := by have := hy.out; simpa using this
        rw [Nat.add_zero] at q1
        have hn := Lib.hid (name_ok' wr g gs n (hT.all hbl) r1 (hP.below hbl) hgl)
        have hll : ws.length ≤ 1000000000000 := by omega
        clear hx hws hA1 h1 hy r1 hwl hl2
        simp only [List.length_cons, List.length_nil, Nat.zero_add] at q0
        go_wp2_with (first
          | (go_at_call 26; refine hn.out.mono ?_; rintro e w1 ⟨rfl, hb1⟩; have s1 := hb1.size)
          | (at_builtin; refine push_str rfl (.tmp 17) (.tmp 23) rfl w1 w.heap.size ws.length c3 A3 (strs ws) (gnB gs n) rfl rfl (own_below hown hb1) hll (by omega) ?_; intro A4 c4 w2 ho2 hg2))
        go_roundw
        case rel => exact ⟨k + 1, by omega, by simp, RowS.next hbl hb1 hown (us := [gnB gs n]) ho2 hg2 (by rw [HS.out, setW_one])⟩
        case measure => simp [intOf]; omega
      · have HW := Lib.hid (setW_more gs x h1)
        have hxl : ws.length + x.length + 2 ≤ 10000000000 := by rw [HW.out] at hwl; simp only [List.length_append, List.length_cons, List.length_map, List.length_nil] at hwl; omega
        have e1 : (x.length == 1) = false := by simpa using h1
        have e2 : ((x.length : Int) == 1) = false := by simp; omega
        have hN0 : RowN w ws ws.length A3 c3 wr := ⟨rfl, hown, hbl⟩
        clear hx hws hwl hl2 h1 hA1 q9
        go_wp2_with (first
          | (at_builtin; refine push_str rfl (.tmp 25) (.tmp 26) rfl wr w.heap.size ws.length c3 A3 (strs ws) [91] rfl rfl hown (by omega) (by omega) ?_; intro A4 c4 w2 ho2 hg2; have hN2 := hN0.next (us := [[91]]) (Below.refl _ _) ho2 hg2; have hb2 := hN2.2.2; have s2 := hb2.size)
          | (go_at_call 72; refine (names_ok w2 g gs A1 c1 x (hT.all hb2) (hP.below hb2) hgl ((KP.below hb2).sl IntR.ok hA0) (by omega)).mono ?_; rintro e w3 ⟨A5, c5, rfl, ho3, hb3⟩; have s3 := hb3.size; have hr5 := own_rd ho3 (List.length_map (gnB gs)))
          | (at_builtin; refine app_str rfl (.tmp 28) (.tmp 31) rfl w3 w.heap.size (ws.length + 1) c4 A4 _ w3.heap.size A5 x.length c5 (x.map (gnB gs)) rfl rfl (own_below ho2 hb3) hr5 (by omega) (by omega) ?_; intro A6 c6 w4 ho4 hg4; have hN4 := hN2.next (us := x.map (gnB gs)) hb3 (by rw [strs_app]; exact ho4) hg4; have s4 := hN4.2.2.size)
          | (at_builtin; refine push_str rfl (.tmp 33) (.tmp 34) rfl w4 w.heap.size _ c6 A6 _ [93] rfl rfl ho4 (by omega) (by omega) ?_; intro A7 c7 w5 ho5 hg5; have hN5 := hN4.next (us := [[93]]) (Below.refl _ _) (by rw [strs_app, strs_app]; exact ho5) hg5))
        go_roundw
        case rel => exact ⟨k + 1, by omega, by simp, by rw [HS.out, HW.out]; simpa using hN5.s⟩
        case measure => simp [intOf]; omega
    · obtain rfl : k = l.length := by omega
      have HL : Hid ((l.take l.length).flatMap (setW gs) = setsW gs l) := by show _ = _; rw [List.take_length]; rfl
      generalize hws : (l.take l.length).flatMap (setW gs) = ws at *
      clear hws
      go_wp2
      go_ret
      rw [← HL.out]
      exact ⟨A3, c3, rfl, hown, hbl⟩
end Go.Proofs.YtkijckccfookeaaDoor
