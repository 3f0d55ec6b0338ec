/- unparse: name, numbers, names, instructions, sets. -/
import Derived.Test.YtkijckccfookeaaDoorUnA
namespace Go.Proofs.YtkijckccfookeaaDoor
open Go.RowKit Go.Sort

theorem infoStr : (Tryd.prog.info? 9).map (fun i => (i.zero, i.size, i.bytes)) = some (some (.string ⟨#[]⟩), 1, 16) := by kernel_rfl
theorem own_form {w : World} {base size n : Nat} {e : TypeId} {v : Value} {xs : List Value} (h : w.ownsRow base e size v n xs) : ∃ A c, v = .slice A n c := by
  obtain ⟨A, c, h, -⟩ := Rd.of_own h
  exact ⟨A, c, h⟩
/-- one text more -/
theorem push_strA {ops : Array Oper} {rest : List Oper} {o : Oper} {a : Act} {Q : Exit → Act → World → Prop} (hgd : o.guard = none) (s x : Operand)
    (ho : o.op = .call { callee := .builtin .append, args := #[s, x], argTypes := #[46, 46] })
    (w1 : World) (hsz : Nat) (hh : w1.heap.size = hsz) (base n c : Nat) (A : Option Addr) (xs : List Value) (u : B) (hs : a.eval s = .slice A n c) (hx : a.eval x = .slice (some ⟨hsz, 0, none⟩) 1 1)
    (hown : w1.ownsRow base 9 1 (.slice A n c) n xs) (hn : n ≤ 1000000000000) (hb : base ≤ w1.heap.size)
    (h : ∀ A' c' w', w'.ownsRow base 9 1 (.slice A' (n + 1) c') (n + 1) (xs ++ [.string ⟨u.toArray⟩]) → w1.grownBy w' (Value.slice A n c).ownBlock → wpList Tryd.prog ops Q rest (a.put o.dst (.slice A' (n + 1) c')) w') :
    wpList Tryd.prog ops Q (o :: rest) a (w1.alloc (.cells #[.string ⟨u.toArray⟩] 9)) := by
  subst hh
  obtain ⟨i0, hi0, hz0, hz1, hz2⟩ := info_parts infoStr
  refine wpList_append_any _ hgd s x 46 ho base 9 i0 _ 1 16 Tryd.underlying46 hi0 hz0 hz1 hz2 rfl (by decide) (.slice A n c) n xs hs (hown.alloc _) (w1.heap.size + 1) (some ⟨w1.heap.size, 0, none⟩) 1 1 [.string ⟨u.toArray⟩] hx (Rd.newAt _ _ rfl #[.string ⟨u.toArray⟩] 9 1 1 rfl) (by simp [Value.oneCell']) (by simp only [maxLen]; omega) (by omega) (by simp; omega) ?_
  intro v' w' ho' hg _
  obtain ⟨A', c', rfl⟩ := own_form ho'
  refine h A' c' w' ho' ⟨hg.os, hg.tape, hg.output, Nat.le_trans (by simp) hg.size, fun i hi hne => ?_⟩
  exact (hg.block i (by simp; omega) hne).trans (Below.heap_alloc _ _ _ hi)
theorem push_str {ops : Array Oper} {rest : List Oper} {o : Oper} {a : Act} {Q : Exit → Act → World → Prop} (hgd : o.guard = none) (s x : Operand)
    (ho : o.op = .call { callee := .builtin .append, args := #[s, x], argTypes := #[46, 46] })
    (w1 : World) (base n c : Nat) (A : Option Addr) (xs : List Value) (u : B) (hs : a.eval s = .slice A n c) (hx : a.eval x = .slice (some ⟨w1.heap.size, 0, none⟩) 1 1)
    (hown : w1.ownsRow base 9 1 (.slice A n c) n xs) (hn : n ≤ 1000000000000) (hb : base ≤ w1.heap.size)
    (h : ∀ A' c' w', w'.ownsRow base 9 1 (.slice A' (n + 1) c') (n + 1) (xs ++ [.string ⟨u.toArray⟩]) → w1.grownBy w' (Value.slice A n c).ownBlock → wpList Tryd.prog ops Q rest (a.put o.dst (.slice A' (n + 1) c')) w') :
    wpList Tryd.prog ops Q (o :: rest) a (w1.alloc (.cells #[.string ⟨u.toArray⟩] 9)) :=
  push_strA hgd s x ho w1 w1.heap.size rfl base n c A xs u hs hx hown hn hb h
/-- some texts more -/
theorem app_str {ops : Array Oper} {rest : List Oper} {o : Oper} {a : Act} {Q : Exit → Act → World → Prop} (hgd : o.guard = none) (s x : Operand)
    (ho : o.op = .call { callee := .builtin .append, args := #[s, x], argTypes := #[46, 46] })
    (w1 : World) (base n c : Nat) (A : Option Addr) (xs : List Value) (Bd : Nat) (A2 : Option Addr) (m c2 : Nat) (ws : List B) (hs : a.eval s = .slice A n c) (hx : a.eval x = .slice A2 m c2)
    (hown : w1.ownsRow base 9 1 (.slice A n c) n xs) (hr : Rd w1 Bd A2 m 1 (strs ws)) (hn : n + m ≤ 1000000000000) (hb : base ≤ w1.heap.size)
    (h : ∀ A' c' w', w'.ownsRow base 9 1 (.slice A' (n + m) c') (n + m) (xs ++ strs ws) → w1.grownBy w' (Value.slice A n c).ownBlock → wpList Tryd.prog ops Q rest (a.put o.dst (.slice A' (n + m) c')) w') :
    wpList Tryd.prog ops Q (o :: rest) a w1 := by
  obtain ⟨i0, hi0, hz0, hz1, hz2⟩ := info_parts infoStr
  refine wpList_append_any _ hgd s x 46 ho base 9 i0 _ 1 16 Tryd.underlying46 hi0 hz0 hz1 hz2 rfl (by decide) (.slice A n c) n xs hs hown Bd A2 m c2 (strs ws) hx hr (strs_one ws) (by simp only [maxLen]; omega) (by omega) hb ?_
  intro v' w' ho' hg _
  obtain ⟨A', c', rfl⟩ := own_form ho'
  exact h A' c' w' ho' hg
/-- a row of texts comes back -/
def RetS (w : World) (ws : List B) (e : Ending) (w' : World) : Prop := ∃ A c, e = .returned (.slice A ws.length c) ∧ w'.ownsRow w.heap.size 9 1 (.slice A ws.length c) ws.length (strs ws) ∧ Below w.heap.size w w'
/-- between two rounds: so many texts -/
def RowS (w : World) (ws : List B) (v : Value) (wr : World) : Prop := ∃ A c, v = .slice A ws.length c ∧ wr.ownsRow w.heap.size 9 1 (.slice A ws.length c) ws.length (strs ws) ∧ Below w.heap.size w wr
theorem RowS.nil (w : World) : RowS w [] (.slice none 0 0) w := ⟨none, 0, rfl, ⟨rfl, .inl ⟨rfl, rfl⟩⟩, Below.refl _ _⟩
theorem RowS.next {w wr w1 w2 : World} {ws ws' us : List B} {A A' : Option Addr} {c c' n : Nat} (hb : Below w.heap.size w wr) (hb1 : Below wr.heap.size wr w1) (ho : wr.ownsRow w.heap.size 9 1 (.slice A ws.length c) ws.length (strs ws))
    (h2 : w2.ownsRow w.heap.size 9 1 (.slice A' n c') n (strs ws ++ strs us)) (hg : w1.grownBy w2 (Value.slice A ws.length c).ownBlock) (hw : ws' = ws ++ us) : RowS w ws' (.slice A' n c') w2 := by
  have hn : n = ws'.length := by
    have := h2.1
    rw [hw, List.length_append]
    simp [strs_len] at this
    omega
  subst hn
  refine ⟨A', c', rfl, by rw [hw, strs_app]; rw [hw] at h2; exact h2, ?_⟩
  exact (hb.trans (hb1.mono hb.size)).grown hg (Nat.le_trans hb.size hb1.size) (fun g e => (ho.lt g e).1)
/-- so many texts, their number apart -/
def RowN (w : World) (ws : List B) (n : Nat) (A : Option Addr) (c : Nat) (wr : World) : Prop := n = ws.length ∧ wr.ownsRow w.heap.size 9 1 (.slice A n c) n (strs ws) ∧ Below w.heap.size w wr
theorem RowN.next {w wr w1 w2 : World} {ws us : List B} {A A' : Option Addr} {c c' n m : Nat} (h : RowN w ws n A c wr) (hb1 : Below wr.heap.size wr w1)
    (h2 : w2.ownsRow w.heap.size 9 1 (.slice A' m c') m (strs ws ++ strs us)) (hg : w1.grownBy w2 (Value.slice A n c).ownBlock) : RowN w (ws ++ us) m A' c' w2 := by
  obtain ⟨rfl, ho, hb⟩ := h
  obtain ⟨A2, c2, e, r1, r2⟩ := RowS.next hb hb1 ho h2 hg rfl
  simp only [Value.slice.injEq] at e
  obtain ⟨rfl, rfl, rfl⟩ := e
  exact ⟨rfl, r1, r2⟩
theorem RowN.s {w wr : World} {ws : List B} {A : Option Addr} {c n : Nat} (h : RowN w ws n A c wr) : RowS w ws (.slice A n c) wr := by
  obtain ⟨rfl, ho, hb⟩ := h
  exact ⟨A, c, rfl, ho, hb⟩
theorem own_rd {w : World} {base n m c size : Nat} {e : TypeId} {A : Option Addr} {xs : List Value} (h : w.ownsRow base e size (.slice A n c) n xs) (hn : n = m) : Rd w w.heap.size A m size xs := by
  subst hn
  obtain ⟨A', c', e, h'⟩ := Rd.of_own h
  simp only [Value.slice.injEq, true_and] at e
  rw [e.1]
  exact h'
theorem cellB {w w' : World} (hb : Below w.heap.size w w') {p : Addr} {v : Value} (h : w.cell? p = some v) : w'.cell? p = some v := (hb.cell (World.block_lt_of_cell? w p h)).trans h
theorem map_take_snoc {α β : Type} (f : α → β) (l : List α) (k : Nat) (x : α) (h : l[k]? = some x) : (l.take (k + 1)).map f = (l.take k).map f ++ [f x] := by
  obtain ⟨hk, hg⟩ := List.getElem?_eq_some_iff.1 h
  rw [List.take_succ_eq_append_getElem hk, hg]
  simp
theorem flat_take_snoc {α β : Type} (f : α → List β) (l : List α) (k : Nat) (x : α) (h : l[k]? = some x) : (l.take (k + 1)).flatMap f = (l.take k).flatMap f ++ f x := by
  obtain ⟨hk, hg⟩ := List.getElem?_eq_some_iff.1 h
  rw [List.take_succ_eq_append_getElem hk, hg]
  simp
/-- the printer's glyphs -/
def PN (w : World) (g : Nat) (gs : List Glyph) : Prop := ∃ A c, w.cell? ⟨g, 1, none⟩ = some (.slice A gs.length c) ∧ Sl GlyphR 9 w (FT w) A gs
theorem PN.below {w w' : World} {g : Nat} {gs : List Glyph} (h : PN w g gs) (hb : Below w.heap.size w w') : PN w' g gs := by
  obtain ⟨A, c, h1, h2⟩ := h
  exact ⟨A, c, (hb.cell (World.block_lt_of_cell? w _ h1)).trans h1, (KP.below hb).sl GlyphR.ok h2⟩
theorem gnB_lo (gs : List Glyph) (n : Int) (h : n < 0) : gnB gs n = 63 :: itB n := by rw [gnB, if_pos h]
theorem gnB_hi (gs : List Glyph) (n : Int) (h : (gs.length : Int) ≤ n) : gnB gs n = 63 :: itB n := by
  rw [gnB]
  split
  · rfl
  · rw [List.getElem?_eq_none (by omega)]
theorem gnB_in (gs : List Glyph) (n : Int) (x : Glyph) (h0 : 0 ≤ n) (h : gs[n.toNat]? = some x) : gnB gs n = x.name := by rw [gnB, if_neg (by omega), h]
theorem app_str_bytes (a b : B) : (ByteArray.mk a.toArray) ++ ⟨b.toArray⟩ = ⟨(a ++ b).toArray⟩ := by
  apply ByteArray.ext
  simp
set_option maxHeartbeats 2000000 in
theorem name_ok' (w : World) (g : Nat) (gs : List Glyph) (n : Int) (hT : Tabs w) (hn : I64 n) (hP : PN w g gs) (hgl : gs.length ≤ 1000000000000) :
    Calls Tryd.prog 26 #[.pointer (some ⟨g, 0, none⟩), .int .i64 n] w fun e w' => e = .returned (.string ⟨(gnB gs n).toArray⟩) ∧ Below w.heap.size w w' := by
  obtain ⟨A, c, hc, hA⟩ := hP
  by_cases h0 : n < 0
  · have hnm := Lib.hid (gnB_lo gs n h0)
    have hnum := Lib.hid (number_ok w n hT hn)
    have happ : (ByteArray.mk #[63]) ++ ⟨(itB n).toArray⟩ = ⟨(63 :: itB n).toArray⟩ := app_str_bytes [63] (itB n)
    have hil := itB_len hn
    clear hn
    go_enter Tryd.func26, Tryd.ntmps26
    go_wp2_with (go_at_call 21; refine hnum.out.mono ?_; rintro e w1 ⟨rfl, hb1⟩)
    go_ret
    exact ⟨by rw [hnm.out]; rfl, hb1⟩
  · by_cases h1 : (gs.length : Int) ≤ n
    · have hnm := Lib.hid (gnB_hi gs n h1)
      have hnum := Lib.hid (number_ok w n hT hn)
      have happ : (ByteArray.mk #[63]) ++ ⟨(itB n).toArray⟩ = ⟨(63 :: itB n).toArray⟩ := app_str_bytes [63] (itB n)
      have hil := itB_len hn
      clear hn
      go_enter Tryd.func26, Tryd.ntmps26
      go_wp2_with (go_at_call 21; refine hnum.out.mono ?_; rintro e w1 ⟨rfl, hb1⟩)
      go_ret
      exact ⟨by rw [hnm.out]; rfl, hb1⟩
    · obtain ⟨m, rfl⟩ : ∃ m : Nat, n = m := ⟨n.toNat, by omega⟩
      have hm : m < gs.length := by omega
      obtain ⟨b, o, x, A3, c3, A4, c4, A5, c5, A6, c6, A7, c7, A8, c8, rfl, -, hx, q0, -⟩ := hA.glyph hm
      have hnm := Lib.hid (gnB_in gs m x (by omega) (by simpa using hx.out))
      clear hn hx h1 h0
      go_enter Tryd.func26, Tryd.ntmps26
      go_wp2
      go_ret
      exact ⟨by rw [hnm.out]; rfl, Below.refl _ _⟩
set_option maxHeartbeats 2000000 in
theorem numbers_ok (w : World) (A : Option Addr) (c : Nat) (l : List Int) (hT : Tabs w) (hA : Sl IntR 1 w (FT w) A l) (hl : l.length ≤ 100000000000) :
    Calls Tryd.prog 23 #[.slice A l.length c] w (RetS w (l.map itB)) := by
  go_enter Tryd.func23, Tryd.ntmps23
  go_wp2
  go_loopw [3, 8] (fun v i wr => ∃ k : Nat, k ≤ l.length ∧ i = .int .i64 k ∧ RowS w ((l.take k).map itB) v wr) (fun _ i _ => l.length - (intOf i).toNat)
  case atStart => exact ⟨0, Nat.zero_le _, rfl, by simpa using RowS.nil w⟩
  case round =>
    obtain ⟨k, hk, rfl, A3, c3, rfl, hown, hbl⟩ := hrel
    have hlk : ((l.take k).map itB).length = k := by simp; omega
    by_cases hlt : k < l.length
    · obtain ⟨b, o, x, rfl, -, hx, q1, hr⟩ := ((KP.below hbl).sl IntR.ok hA).int hlt
      have hn := Lib.hid (number_ok wr x (hT.all hbl) hr)
      have HS := Lib.hid (map_take_snoc itB l k x hx.out)
      have HL := Lib.hid hlk
      generalize hws : (l.take k).map itB = ws at *
      have s0 := hbl.size
      have hll : ws.length ≤ 1000000000000 := by rw [HL.out]; omega
      clear hx hr hws hlk
      go_wp2_with (first
        | (go_at_call 21; refine hn.out.mono ?_; rintro e w1 ⟨rfl, hb1⟩; have s1 := hb1.size)
        | (at_builtin; refine push_str rfl (.tmp 12) (.tmp 15) rfl w1 w.heap.size ws.length c3 A3 (strs ws) (itB x) rfl rfl (own_below hown hb1) hll (by omega) ?_; intro A4 c4 w2 ho2 hg2))
      go_roundw
      case rel => exact ⟨k + 1, by omega, by simp, RowS.next hbl hb1 hown (us := [itB x]) ho2 hg2 HS.out⟩
      case measure => simp [intOf]; omega
    · obtain rfl : k = l.length := by omega
      have HL : Hid ((l.take l.length).map itB = l.map itB) := by show _ = _; rw [List.take_length]
      generalize hws : (l.take l.length).map itB = ws at *
      clear hws hlk
      go_wp2
      go_ret
      rw [← HL.out]
      exact ⟨A3, c3, rfl, hown, hbl⟩
set_option maxHeartbeats 2000000 in
theorem names_ok (w : World) (g : Nat) (gs : List Glyph) (A : Option Addr) (c : Nat) (l : List Int) (hT : Tabs w) (hP : PN w g gs) (hgl : gs.length ≤ 1000000000000) (hA : Sl IntR 1 w (FT w) A l) (hl : l.length ≤ 100000000000) :
    Calls Tryd.prog 72 #[.pointer (some ⟨g, 0, none⟩), .slice A l.length c] w (RetS w (l.map (gnB gs))) := by
  go_enter Tryd.func72, Tryd.ntmps72
  go_wp2
  go_loopw [5, 10] (fun v i wr => ∃ k : Nat, k ≤ l.length ∧ i = .int .i64 k ∧ RowS w ((l.take k).map (gnB gs)) v wr) (fun _ i _ => l.length - (intOf i).toNat)
  case atStart => exact ⟨0, Nat.zero_le _, rfl, by simpa using RowS.nil w⟩
  case round =>
    obtain ⟨k, hk, rfl, A3, c3, rfl, hown, hbl⟩ := hrel
    have hlk : ((l.take k).map (gnB gs)).length = k := by simp; omega
    by_cases hlt : k < l.length
    · obtain ⟨b, o, x, rfl, -, hx, q1, hr⟩ := ((KP.below hbl).sl IntR.ok hA).int hlt
      have hn := Lib.hid (name_ok' wr g gs x (hT.all hbl) hr (hP.below hbl) hgl)
      have HS := Lib.hid (map_take_snoc (gnB gs) l k x hx.out)
      have HL := Lib.hid hlk
      generalize hws : (l.take k).map (gnB gs) = ws at *
      have s0 := hbl.size
      have hll : ws.length ≤ 1000000000000 := by rw [HL.out]; omega
      clear hx hr hws hlk
      go_wp2_with (first
        | (go_at_call 26; refine hn.out.mono ?_; rintro e w1 ⟨rfl, hb1⟩; have s1 := hb1.size)
        | (at_builtin; refine push_str rfl (.tmp 14) (.tmp 18) rfl w1 w.heap.size ws.length c3 A3 (strs ws) (gnB gs x) rfl rfl (own_below hown hb1) hll (by omega) ?_; intro A4 c4 w2 ho2 hg2))
      go_roundw
      case rel => exact ⟨k + 1, by omega, by simp, RowS.next hbl hb1 hown (us := [gnB gs x]) ho2 hg2 HS.out⟩
      case measure => simp [intOf]; omega
    · obtain rfl : k = l.length := by omega
      have HL : Hid ((l.take l.length).map (gnB gs) = l.map (gnB gs)) := by show _ = _; rw [List.take_length]
      generalize hws : (l.take l.length).map (gnB gs) = ws at *
      clear hws hlk
      go_wp2
      go_ret
      rw [← HL.out]
      exact ⟨A3, c3, rfl, hown, hbl⟩
end Go.Proofs.YtkijckccfookeaaDoor
