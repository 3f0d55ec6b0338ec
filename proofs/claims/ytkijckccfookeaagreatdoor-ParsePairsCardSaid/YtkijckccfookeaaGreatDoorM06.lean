/- The contract of words.Name. -/
import Derived.Test.YtkijckccfookeaaGreatDoorM04
import Derived.Test.YtkijckccfookeaaGreatDoorM05
namespace Go.Proofs.YtkijckccfookeaaGreatDoor
open Go.RowKit

theorem below_iter (w : World) (s : ByteArray) (k : Nat) : Below w.heap.size w (w.iter s k) := (Below.refl _ _).alloc (Nat.le_refl _) _
set_option maxHeartbeats 2000000 in
theorem wName_ok (w : World) (s : B) : Calls Tryz.prog 72 #[.string ⟨s.toArray⟩] w fun e w' => e = .returned (.bool (nameB s)) ∧ Below w.heap.size w w' := by
  by_cases hl : s.length < 1 ∨ 16 < s.length
  · have hf := Lib.hid (nameB_len s hl)
    go_enter Tryz.func72, Tryz.ntmps72
    rcases hl with hl | hl
    · go_wp2
      go_ret
      exact ⟨by rw [hf.out]; rfl, Below.refl _ _⟩
    · go_wp2
      go_ret
      exact ⟨by rw [hf.out]; rfl, Below.refl _ _⟩
  · have h1 : 1 ≤ s.length := by omega
    have h2 : s.length ≤ 16 := by omega
    clear hl
    go_enter Tryz.func72, Tryz.ntmps72
    go_wp2
    go_loopw [3] (fun _ wr => ∃ k : Nat, wr = w.iter ⟨s.toArray⟩ k ∧ k ≤ s.length ∧ ∀ j c, j < k → s[j]? = some c → nameAt j c = true) (fun _ wr => s.length - wr.iterPos w.heap.size)
    case atStart => exact ⟨0, rfl, by omega, by omega⟩
    case round =>
      obtain ⟨k, rfl, hk, hall⟩ := hrel
      by_cases hlt : k < s.length
      · obtain ⟨c, hc⟩ : ∃ c, s[k]? = some c := ⟨_, List.getElem?_eq_getElem hlt⟩
        have hb := byte_at s k c hc hlt
        by_cases ha : c.toNat < 128
        · have hnx : ∀ ty, (Instr.next (.pointer (some ⟨w.heap.size, 0, none⟩)) true ty).run Tryz.prog (w.iter ⟨s.toArray⟩ k) = _ := fun ty => run_next_ascii w ⟨s.toArray⟩ k ty hlt (by rw [hb]; exact ha)
          rw [hb] at hnx
          have hend : Hid (nameAt k c = true → (∃ k' : Nat, w.iter ⟨s.toArray⟩ (k + 1) = w.iter ⟨s.toArray⟩ k' ∧ k' ≤ s.length ∧ ∀ j c, j < k' → s[j]? = some c → nameAt j c = true) ∧ s.length - (w.iter ⟨s.toArray⟩ (k + 1)).iterPos w.heap.size < s.length - (w.iter ⟨s.toArray⟩ k).iterPos w.heap.size) := by
            intro hn
            refine ⟨⟨k + 1, rfl, by omega, fun j d hj hd => ?_⟩, by simp; omega⟩
            by_cases hjk : j = k
            · subst hjk
              rw [hc] at hd
              cases hd
              exact hn
            · exact hall j d (by omega) hd
          have hno := Lib.hid (nameB_no s k c hc)
          clear hc hall hb
          go_wp2
          all_goals first
            | (refine hend.out ((nameAt_iff k c).2 ?_); simp only [beq_iff_eq, beq_eq_false_iff_ne, ne_eq] at *; omega)
            | (go_ret; refine ⟨?_, below_iter _ _ _⟩; rw [hno.out (by rw [← Bool.not_eq_true, nameAt_iff]; simp only [beq_iff_eq, beq_eq_false_iff_ne, ne_eq] at *; omega)]; rfl)
            | trace_state
        · obtain ⟨hd1, -⟩ := decode_high ⟨s.toArray⟩ k hlt (by rw [hb]; omega)
          have hd2 := decode_le ⟨s.toArray⟩ k
          have hnx : ∀ ty, (Instr.next (.pointer (some ⟨w.heap.size, 0, none⟩)) true ty).run Tryz.prog (w.iter ⟨s.toArray⟩ k) = _ := fun ty => run_next_any w ⟨s.toArray⟩ k ty hlt
          have hno := Lib.hid (nameB_no s k c hc (nameAt_high (by omega)))
          clear hc hall hb
          generalize Utf8.decode ⟨s.toArray⟩ k = D at *
          obtain ⟨r, wd⟩ := D
          simp only at hd1 hd2 hnx
          go_wp2
          all_goals first
            | (exfalso; simp only [beq_iff_eq, beq_eq_false_iff_ne, ne_eq] at *; omega)
            | (go_ret; exact ⟨by rw [hno.out]; rfl, below_iter _ _ _⟩)
            | trace_state
      · obtain rfl : k = s.length := by omega
        have hf := Lib.hid ((nameB_yes s hall).trans (decide_eq_true ⟨h1, h2⟩))
        have hnx : ∀ ty, (Instr.next (.pointer (some ⟨w.heap.size, 0, none⟩)) true ty).run Tryz.prog (w.iter ⟨s.toArray⟩ s.length) = _ := fun ty => run_next_end w ⟨s.toArray⟩ s.length ty hlt
        clear hall
        go_wp2
        go_ret
        exact ⟨by rw [hf.out]; rfl, below_iter _ _ _⟩
end Go.Proofs.YtkijckccfookeaaGreatDoor
/- The contracts of strings.CutPrefix at a sign, words.Number. -/
namespace Go.Proofs.YtkijckccfookeaaGreatDoor
open Go.RowKit

set_option maxRecDepth 100000 in
set_option maxHeartbeats 2000000 in
theorem wCut_ok (w : World) (s : B) (hs : s.length ≤ 1000000) : Calls Tryz.prog 169 #[.string ⟨s.toArray⟩, .string ⟨#[45]⟩] w fun e w' => e = .returned (.tuple #[.string ⟨(unsign s).toArray⟩, .bool (signed s)]) ∧ w = w' := by
  cases s with
  | nil =>
    go_enter Tryz.func169, Tryz.ntmps169
    go_wp2
    go_ret2
    exact ⟨rfl, rfl⟩
  | cons c r =>
    have hex : (ByteArray.mk (c :: r).toArray).extract 0 1 = ⟨[c].toArray⟩ := by rw [extract_list]; simp
    have hex2 : (ByteArray.mk (c :: r).toArray).extract 1 (r.length + 1) = ⟨r.toArray⟩ := by rw [extract_list]; simp
    by_cases hc : c = 45
    · subst hc
      go_enter Tryz.func169, Tryz.ntmps169
      go_wp2
      go_ret2
      exact ⟨rfl, rfl⟩
    · have hne : (c == 45) = false := by simpa using hc
      have hu : unsign (c :: r) = c :: r ∧ signed (c :: r) = false := by
        rcases unsign_cases (c :: r) with ⟨r', h, _⟩ | ⟨h1, h2, _⟩
        · injection h with h _
          exact absurd h hc
        · exact ⟨h1, h2⟩
      have Hu := Lib.hid hu
      clear hu hc
      go_enter Tryz.func169, Tryz.ntmps169
      go_wp2
      go_ret2
      rw [Hu.out.1, Hu.out.2]
      exact ⟨rfl, rfl⟩
theorem unsign_len (s : B) : (unsign s).length ≤ s.length := by
  rcases unsign_cases s with ⟨r, h1, h2, -⟩ | ⟨h, -⟩
  · rw [h2, h1]; simp
  · rw [h]; exact Nat.le_refl _
theorem valB_bound (d : B) (k : Nat) (hk : k ≤ 9) (h : ∀ j c, j < k → d[j]? = some c → digitB c = true) : valB (d.take k) < 1000000000 := by
  have h1 := valB_lt (d.take k) (fun c hc => by
    obtain ⟨i, hi⟩ := List.mem_iff_getElem?.1 hc
    rw [List.getElem?_take] at hi
    split at hi
    · exact h i c ‹_› hi
    · cases hi)
  have h2 : 10 ^ (d.take k).length ≤ 10 ^ 9 := Nat.pow_le_pow_right (by omega) (by rw [List.length_take]; omega)
  exact Nat.lt_of_lt_of_le h1 h2
theorem digits_snoc (d : B) (k : Nat) (c : UInt8) (hc : d[k]? = some c) (hd : digitB c = true) (h : ∀ j c, j < k → d[j]? = some c → digitB c = true) : ∀ j c, j < k + 1 → d[j]? = some c → digitB c = true := by
  intro j e hj he
  by_cases hjk : j = k
  · subst hjk
    rw [hc] at he
    cases he
    exact hd
  · exact h j e (by omega) he
theorem valB_take (d : B) (k : Nat) (c : UInt8) (hc : d[k]? = some c) : valB (d.take (k + 1)) = 10 * valB (d.take k) + (c.toNat - 48) := by
  obtain ⟨hk, hg⟩ := List.getElem?_eq_some_iff.1 hc
  rw [List.take_succ_eq_append_getElem hk, hg, valB_snoc]
theorem digits_all (d : B) (h : ∀ j c, j < d.length → d[j]? = some c → digitB c = true) : ∀ c ∈ d, digitB c = true := by
  intro c hc
  obtain ⟨i, hi⟩ := List.mem_iff_getElem?.1 hc
  exact h i c (List.getElem?_eq_some_iff.1 hi).1 hi
def NumPost (s : B) (w : World) (e : Ending) (w' : World) : Prop := e = .returned (.tuple #[.int .i64 (numV s), .bool (numOk s)]) ∧ Below w.heap.size w w'
set_option maxRecDepth 100000 in
set_option maxHeartbeats 4000000 in
theorem wNumber_ok (w : World) (s : B) (hs : s.length ≤ 1000000) : Calls Tryz.prog 163 #[.string ⟨s.toArray⟩] w (NumPost s w) := by
  have hu := unsign_len s
  have hcut := wCut_ok w s hs
  have hpost : Hid (∀ w', (numD (unsign s) = false → Below w.heap.size w w' → NumPost s w (.returned (.tuple #[.int .i64 0, .bool false])) w') ∧
      (numD (unsign s) = true → signed s = true → Below w.heap.size w w' → NumPost s w (.returned (.tuple #[.int .i64 (-(valB (unsign s) : Int)), .bool true])) w') ∧
      (numD (unsign s) = true → signed s = false → Below w.heap.size w w' → NumPost s w (.returned (.tuple #[.int .i64 (valB (unsign s) : Int), .bool true])) w')) := by
    intro w'
    refine ⟨fun h hb => ⟨?_, hb⟩, fun h h2 hb => ⟨?_, hb⟩, fun h h2 hb => ⟨?_, hb⟩⟩
    · simp [numV, numOk, h]
    · simp [numV, numOk, h, h2]
    · simp [numV, numOk, h, h2]
  generalize unsign s = d at *
  generalize signed s = sg at *
  have Hcut := Lib.hid hcut
  clear hcut
  by_cases hl : d.length < 1 ∨ 9 < d.length
  · have hno := Lib.hid (numD_len d hl)
    go_enter Tryz.func163, Tryz.ntmps163
    go_wp2_with fail
    refine Hcut.out.mono ?_
    rintro e w' ⟨rfl, rfl⟩
    rcases hl with hl | hl
    · go_wp2
      go_ret2
      exact (hpost.out _).1 hno.out (Below.refl _ _)
    · go_wp2
      go_ret2
      exact (hpost.out _).1 hno.out (Below.refl _ _)
  · have h1 : 1 ≤ d.length := by omega
    have h9 : d.length ≤ 9 := by omega
    clear hl
    go_enter Tryz.func163, Tryz.ntmps163
    go_wp2_with fail
    refine Hcut.out.mono ?_
    rintro e w' ⟨rfl, rfl⟩
    go_wp2
    go_loopw [6] (fun v wr => ∃ k N : Nat, wr = w.iter ⟨d.toArray⟩ k ∧ k ≤ d.length ∧ v = .int .i64 (N : Int) ∧ Hid (N = valB (d.take k)) ∧ ∀ j c, j < k → d[j]? = some c → digitB c = true) (fun _ wr => d.length - wr.iterPos w.heap.size)
    case atStart => exact ⟨0, 0, rfl, by omega, rfl, rfl, by omega⟩
    case round =>
      obtain ⟨k, N, rfl, hk, rfl, hN, hall⟩ := hrel
      by_cases hlt : k < d.length
      · obtain ⟨c, hc⟩ : ∃ c, d[k]? = some c := ⟨_, List.getElem?_eq_getElem hlt⟩
        have hb := byte_at d k c hc hlt
        have hvb : N ≤ 999999999 := by have := valB_bound d k (by omega) hall; rw [← hN.out] at this; omega
        by_cases ha : c.toNat < 128
        · have hnx : ∀ ty, (Instr.next (.pointer (some ⟨w.heap.size, 0, none⟩)) true ty).run Tryz.prog (w.iter ⟨d.toArray⟩ k) = _ := fun ty => run_next_ascii w ⟨d.toArray⟩ k ty hlt (by rw [hb]; exact ha)
          rw [hb] at hnx
          by_cases hdg : digitB c = true
          · have hend : Hid (∀ v : Int, v = 10 * (N : Int) + ((c.toNat : Int) - 48) → ∃ k' N' : Nat, w.iter ⟨d.toArray⟩ (k + 1) = w.iter ⟨d.toArray⟩ k' ∧ k' ≤ d.length ∧ Value.int .i64 v = .int .i64 (N' : Int) ∧ Hid (N' = valB (d.take k')) ∧ ∀ j c, j < k' → d[j]? = some c → digitB c = true) := by
              intro v hv
              have h48 := (digitB_iff c).1 hdg
              refine ⟨k + 1, 10 * N + (c.toNat - 48), rfl, by omega, ?_, ?_, digits_snoc d k c hc hdg hall⟩
              · rw [hv]
                congr 1
                omega
              · show _ = _
                rw [valB_take d k c hc, hN.out]
            obtain ⟨q1, q2⟩ := (digitB_iff c).1 hdg
            clear hc hall hb hdg
            go_wp2
            go_roundw
            case rel => exact hend.out _ (by omega)
            case measure => simp; omega
          · have hno := Lib.hid (numD_no d c (List.mem_of_getElem? hc) (by simpa using hdg))
            have hq : ¬ (48 ≤ c.toNat ∧ c.toNat ≤ 57) := fun h => hdg ((digitB_iff c).2 h)
            have hq2 : (c.toNat : Int) < 48 ∨ 57 < (c.toNat : Int) := by omega
            clear hc hall hb hdg hq
            rcases hq2 with hq2 | hq2
            · go_wp2
              go_ret2
              exact (hpost.out _).1 hno.out (below_iter _ _ _)
            · go_wp2
              go_ret2
              exact (hpost.out _).1 hno.out (below_iter _ _ _)
        · obtain ⟨hd1, -⟩ := decode_high ⟨d.toArray⟩ k hlt (by rw [hb]; omega)
          have hd2 := decode_le ⟨d.toArray⟩ k
          have hnx : ∀ ty, (Instr.next (.pointer (some ⟨w.heap.size, 0, none⟩)) true ty).run Tryz.prog (w.iter ⟨d.toArray⟩ k) = _ := fun ty => run_next_any w ⟨d.toArray⟩ k ty hlt
          have hno := Lib.hid (numD_no d c (List.mem_of_getElem? hc) (by rw [← Bool.not_eq_true, digitB_iff]; omega))
          clear hc hall hb
          generalize Utf8.decode ⟨d.toArray⟩ k = D at *
          obtain ⟨r, wd⟩ := D
          simp only at hd1 hd2 hnx
          go_wp2
          go_ret2
          exact (hpost.out _).1 hno.out (below_iter _ _ _)
      · obtain rfl : k = d.length := by omega
        have hyes := Lib.hid (numD_yes d (digits_all d hall) h1 h9)
        have hvb : N ≤ 999999999 := by have := valB_bound d d.length (by omega) hall; rw [← hN.out] at this; omega
        have hN2 : Hid (valB d = N) := by show _ = _; rw [hN.out, List.take_length]
        have hnx : ∀ ty, (Instr.next (.pointer (some ⟨w.heap.size, 0, none⟩)) true ty).run Tryz.prog (w.iter ⟨d.toArray⟩ d.length) = _ := fun ty => run_next_end w ⟨d.toArray⟩ d.length ty hlt
        clear hall
        cases sg with
        | true =>
          have hp := Lib.hid ((hpost.out (w.iter ⟨d.toArray⟩ d.length)).2.1 hyes.out rfl (below_iter _ _ _))
          rw [hN2.out] at hp
          go_wp2
          go_ret2
          exact hp.out
        | false =>
          have hp := Lib.hid ((hpost.out (w.iter ⟨d.toArray⟩ d.length)).2.2 hyes.out rfl (below_iter _ _ _))
          rw [hN2.out] at hp
          go_wp2
          go_ret2
          exact hp.out
end Go.Proofs.YtkijckccfookeaaGreatDoor
/- The parser's state in memory. Plain facts, no program. -/
namespace Go.Proofs.YtkijckccfookeaaGreatDoor
open Go.RowKit

/-- a row's elements -/
def RowD {α : Type} (R : Rel α) (size : Nat) (w : World) (S : Bs) (r : RV) (xs : List α) : Prop := r.n = xs.length ∧ Fl R size w S r.xs xs
theorem RowD.tr {α : Type} {R : Rel α} (ok : R.Ok) {size : Nat} {w w' : World} {rv rv' : Rows} {r : RV} {xs : List α} (h : RowD R size w (Fz w rv) r xs) (t : Tr w rv w' rv') : RowD R size w' (Fz w' rv') r xs := ⟨h.1, t.fl ok h.2⟩
theorem RowD.nil {α : Type} (R : Rel α) (size : Nat) (w : World) (S : Bs) : RowD R size w S RV.nil [] := ⟨rfl, Fl.nil⟩
/-- the glyphs: the last one's rows are written on -/
def GlD (w : World) (S : Bs) (r0 r8 r9 r10 r11 r12 r13 : RV) (gs : List Glyph) : Prop :=
  r0.n = gs.length ∧ ((gs = [] ∧ r0.xs = []) ∨ ∃ init g ci, gs = init ++ [g] ∧
    r0.xs = ci ++ [.string ⟨g.name.toArray⟩, .int .i64 g.advance, .bool g.mark, r8.v, r9.v, r10.v, r11.v, r12.v, r13.v] ∧ I64 g.advance ∧ Fl GlyphR 9 w S ci init ∧
    RowD PtR 3 w S r8 g.points ∧ RowD IntR 1 w S r9 g.ends ∧ RowD PartR 3 w S r10 g.parts ∧ RowD AnchorR 4 w S r11 g.anchors ∧ RowD DeltaR 4 w S r12 g.deltas ∧ RowD InsR 2 w S r13 g.hint)
theorem GlD.tr {w w' : World} {rv rv' : Rows} {r0 r8 r9 r10 r11 r12 r13 : RV} {gs : List Glyph} (h : GlD w (Fz w rv) r0 r8 r9 r10 r11 r12 r13 gs) (t : Tr w rv w' rv') : GlD w' (Fz w' rv') r0 r8 r9 r10 r11 r12 r13 gs := by
  refine ⟨h.1, ?_⟩
  rcases h.2 with h | ⟨init, g, ci, h1, h2, h3, h4, h5, h6, h7, h8, h9, h10⟩
  · exact .inl h
  · exact .inr ⟨init, g, ci, h1, h2, h3, t.fl GlyphR.ok h4, h5.tr PtR.ok t, h6.tr IntR.ok t, h7.tr PartR.ok t, h8.tr AnchorR.ok t, h9.tr DeltaR.ok t, h10.tr InsR.ok t⟩
def LkD (w : World) (S : Bs) (r2 r14 : RV) (ls : List Lookup) : Prop :=
  r2.n = ls.length ∧ ((ls = [] ∧ r2.xs = []) ∨ ∃ init l ci, ls = init ++ [l] ∧ r2.xs = ci ++ [.int .i64 l.kind, .bool l.ignore, r14.v] ∧ I64 l.kind ∧ Fl LookupR 3 w S ci init ∧ RowD RuleR 6 w S r14 l.rules)
theorem LkD.tr {w w' : World} {rv rv' : Rows} {r2 r14 : RV} {ls : List Lookup} (h : LkD w (Fz w rv) r2 r14 ls) (t : Tr w rv w' rv') : LkD w' (Fz w' rv') r2 r14 ls := by
  refine ⟨h.1, ?_⟩
  rcases h.2 with h | ⟨init, l, ci, h1, h2, h3, h4, h5⟩
  · exact .inl h
  · exact .inr ⟨init, l, ci, h1, h2, h3, t.fl LookupR.ok h4, h5.tr RuleR.ok t⟩
/-- the classes -/
def ClsD (w : World) (S : Bs) (cm : Nat) (cls : List (B × List Int)) : Prop :=
  ∃ f, MapF embB w cm f ∧ ∀ t, (cls.lookup t = none ∧ f t = none) ∨ ∃ l A c, cls.lookup t = some l ∧ f t = some (.slice A l.length c) ∧ Sl IntR 1 w S A l ∧ l.length ≤ 2000
/-- the font so far -/
structure FD (w : World) (S : Bs) (rv : Rows) (f : Fnt) : Prop where
  unit : I64 f.unit
  gly : GlD w S (rv 0) (rv 8) (rv 9) (rv 10) (rv 11) (rv 12) (rv 13) f.glyphs
  chr : RowD ChrR 2 w S (rv 1) f.chars
  lks : LkD w S (rv 2) (rv 14) f.lookups
  fts : RowD FeatureR 2 w S (rv 3) f.features
  axs : RowD AxisR 4 w S (rv 4) f.axes
  rgs : RowD RegionR 1 w S (rv 5) f.regions
  fns : RowD CodeR 1 w S (rv 6) f.funcs
  cvt : RowD IntR 1 w S (rv 7) f.cvt
theorem FD.tr {w w' : World} {rv rv' : Rows} {f : Fnt} (h : FD w (Fz w rv) rv f) (t : Tr w rv w' rv') : FD w' (Fz w' rv') rv f :=
  ⟨h.unit, h.gly.tr t, h.chr.tr ChrR.ok t, h.lks.tr t, h.fts.tr FeatureR.ok t, h.axs.tr AxisR.ok t, h.rgs.tr RegionR.ok t, h.fns.tr CodeR.ok t, h.cvt.tr IntR.ok t⟩
/-- the parser's own cells -/
def parCells (s : PS) (rv : Rows) (gm cm : Nat) : Array Value :=
  #[.int .i64 s.f.unit, (rv 0).v, (rv 1).v, (rv 2).v, (rv 3).v, (rv 4).v, (rv 5).v, (rv 6).v, (rv 7).v, .bool s.unit, .map (some gm), .map (some cm)]
abbrev tPar : TypeId := 116
abbrev tRdr : TypeId := 194
structure PSt (w : World) (Bd p gm cm : Nat) (gl : Gl) (s : PS) (rv : Rows) (K : Nat) : Prop where
  par : Bk w p tPar (parCells s rv gm cm)
  live : Live w Bd rv
  fnt : FD w (Fz w rv) rv s.f
  gmp : MapF embB w gm (fun t => (gl.lookup t).map fun n => .int .i64 (n : Nat))
  glI : ∀ t n, gl.lookup t = some n → n ≤ 1000000000
  cls : ClsD w (Fz w rv) cm s.cls
  few : ∀ j, j < 15 → (rv j).n ≤ K
  low : Bd ≤ p ∧ Bd ≤ gm ∧ Bd ≤ cm ∧ gm ≠ cm
theorem MapF.not_bk {κ : Type} {E : Emb κ} {w : World} {b : Nat} {f : κ → Option Value} (h : MapF E w b f) {t : TypeId} {cs : Array Value} (hb : Bk w b t cs) : False := by
  obtain ⟨es, clock, h1⟩ := h.isMap
  unfold Bk at hb
  rw [h1] at hb
  cases hb
theorem Bk.keep {w w' : World} {g : Nat} {t : TypeId} {cs : Array Value} (h : Bk w g t cs) (hk : w'.heap[g]? = w.heap[g]?) : Bk w' g t cs := hk.trans h
theorem ClsD.tr {w w' : World} {rv rv' : Rows} {cm : Nat} {cls : List (B × List Int)} (h : ClsD w (Fz w rv) cm cls) (t : Tr w rv w' rv') (hk : w'.heap[cm]? = w.heap[cm]?) : ClsD w' (Fz w' rv') cm cls := by
  obtain ⟨f, h1, h2⟩ := h
  refine ⟨f, h1.keep hk, fun x => ?_⟩
  rcases h2 x with h | ⟨l, A, c, e1, e2, e3, e4⟩
  · exact .inl h
  · exact .inr ⟨l, A, c, e1, e2, t.sl IntR.ok e3, e4⟩
theorem ClsD.lt {w : World} {S : Bs} {cm : Nat} {cls : List (B × List Int)} (h : ClsD w S cm cls) : cm < w.heap.size := by
  obtain ⟨f, h1, h2⟩ := h
  exact h1.lt
section
variable {w w' : World} {Bd p gm cm : Nat} {gl : Gl} {s : PS} {rv : Rows} {K : Nat}
theorem PSt.mono (h : PSt w Bd p gm cm gl s rv K) {K' : Nat} (hK : K ≤ K') : PSt w Bd p gm cm gl s rv K' := { h with few := fun j hj => Nat.le_trans (h.few j hj) hK }
/-- nothing of the parser's is touched -/
theorem PSt.below (h : PSt w Bd p gm cm gl s rv K) (hb : Below w.heap.size w w') : PSt w' Bd p gm cm gl s rv K :=
  { par := h.par.keep (hb.block p h.par.lt), live := h.live.below hb, fnt := h.fnt.tr (Tr.below hb), gmp := h.gmp.below hb, glI := h.glI, cls := h.cls.tr (Tr.below hb) (hb.block cm h.cls.lt), few := h.few, low := h.low }
/-- a block that is none of the parser's is written -/
theorem PSt.other (h : PSt w Bd p gm cm gl s rv K) {row : Nat} (hg : w.grownBy w' (some row)) {t : TypeId} {cs : Array Value} (hr : Bk w row t cs) (h1 : dataT t = false) (h2 : t ≠ tPar) : PSt w' Bd p gm cm gl s rv K := by
  have hr' : ∀ g, some row = some g → ∀ t cs, Bk w g t cs → dataT t = false := fun g e t' cs' hb => by
    injection e with e
    subst e
    rw [(bk_one hb hr).1]
    exact h1
  have ht : Tr w rv w' rv := Tr.other hg hr'
  refine { par := h.par.keep (hg.block p h.par.lt fun e => ?_), live := h.live.other hg hr', fnt := h.fnt.tr ht, gmp := h.gmp.grown hg fun e => ?_, glI := h.glI, cls := h.cls.tr ht (hg.block cm h.cls.lt fun e => ?_), few := h.few, low := h.low }
  · injection e with e
    subst e
    exact h2 (bk_one hr h.par).1
  · injection e with e
    subst e
    exact h.gmp.not_bk hr
  · injection e with e
    subst e
    obtain ⟨f, h1, h2⟩ := h.cls
    exact h1.not_bk hr
theorem PSt.drewN (h : PSt w Bd p gm cm gl s rv K) (n : Nat) : PSt (w.drewN n) Bd p gm cm gl s rv K := h.below ⟨rfl, rfl, rfl, Nat.le_refl _, fun _ _ => rfl⟩
/-- the parser's rows lie elsewhere than the parser, the maps -/
theorem PSt.row_ne (h : PSt w Bd p gm cm gl s rv K) {i : Nat} (hi : i < 15) : (rv i).v.ownBlock ≠ some p ∧ (rv i).v.ownBlock ≠ some gm ∧ (rv i).v.ownBlock ≠ some cm := by
  refine ⟨fun e => ?_, fun e => ?_, fun e => ?_⟩ <;> obtain ⟨cur, hb⟩ := ownBlock_bk (h.live.own i hi) e
  · have := (bk_one hb h.par).1
    have hd := kT_data i
    rw [this] at hd
    revert hd
    decide
  · exact h.gmp.not_bk hb
  · obtain ⟨f, h1, h2⟩ := h.cls
    exact h1.not_bk hb
/-- what is left of the parser when row i is written on -/
theorem PSt.row (h : PSt w Bd p gm cm gl s rv K) {i : Nat} (hi : i < 15) {r : RV} (hg : w.grownBy w' (rv i).v.ownBlock) (ho : w'.ownsRow Bd (kT i) (kS i) r.v r.n r.xs)
    (hl : r.v.ownBlock = (rv i).v.ownBlock ∨ ∀ g, r.v.ownBlock = some g → w.heap.size ≤ g) :
    Bk w' p tPar (parCells s rv gm cm) ∧ Live w' Bd (upd rv i r) ∧ Tr w rv w' (upd rv i r) ∧ MapF embB w' gm (fun t => (gl.lookup t).map fun n => .int .i64 (n : Nat)) ∧ ClsD w' (Fz w' (upd rv i r)) cm s.cls := by
  obtain ⟨n1, n2, n3⟩ := h.row_ne hi
  have ht := Tr.row (rv := rv) hi hg hl
  exact ⟨h.par.keep (hg.block p h.par.lt (fun e => n1 e.symm)), h.live.row hi hg ho hl, ht, h.gmp.grown hg (fun e => n2 e.symm), h.cls.tr ht (hg.block cm h.cls.lt (fun e => n3 e.symm))⟩
/-- the parser's own cells are written -/
theorem PSt.parW {s' : PS} {rv' : Rows} {cs : Array Value} (hp : Bk w p tPar cs) (hl : Live w Bd rv') (hf : FD w (Fz w rv') rv' s'.f) (hm : MapF embB w gm (fun t => (gl.lookup t).map fun n => .int .i64 (n : Nat))) (hi : ∀ t n, gl.lookup t = some n → n ≤ 1000000000)
    (hc : ClsD w (Fz w rv') cm s'.cls) (hw : ∀ j, j < 15 → (rv' j).n ≤ K) (hB : Bd ≤ p ∧ Bd ≤ gm ∧ Bd ≤ cm ∧ gm ≠ cm) (j : Nat) (u : Value) (hcs : cs.setIfInBounds j u = parCells s' rv' gm cm) : PSt (w.setCell ⟨p, j, none⟩ u) Bd p gm cm gl s' rv' K := by
  have hg := grown_set w ⟨p, j, none⟩ u
  have hr' : ∀ g, some p = some g → ∀ t cs, Bk w g t cs → dataT t = false := fun g e t' cs' hb => by
    injection e with e
    subst e
    rw [(bk_one hb hp).1]
    decide
  have ht : Tr w rv' (w.setCell ⟨p, j, none⟩ u) rv' := Tr.other hg hr'
  refine { par := ?_, live := hl.other hg hr', fnt := hf.tr ht, gmp := hm.grown hg fun e => ?_, glI := hi, cls := hc.tr ht (hg.block cm hc.lt fun e => ?_), few := hw, low := hB }
  · rw [← hcs]
    exact hp.set j u
  · injection e with e
    subst e
    exact hm.not_bk hp
  · injection e with e
    subst e
    obtain ⟨f, h1, h2⟩ := hc
    exact h1.not_bk hp
end
end Go.Proofs.YtkijckccfookeaaGreatDoor
