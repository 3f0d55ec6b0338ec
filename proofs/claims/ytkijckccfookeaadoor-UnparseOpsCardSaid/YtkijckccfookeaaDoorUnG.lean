/- unparse: rule at every kind; lookup. -/
import Derived.Test.YtkijckccfookeaaDoorUnF
namespace Go.Proofs.YtkijckccfookeaaDoor
open Go.RowKit Go.Sort

theorem words_le (ws : List B) : ws.length ≤ (moreB ws).length := by
  induction ws with
  | nil => simp
  | cons a l ih =>
    have e : moreB (a :: l) = 32 :: a ++ moreB l := by simp [moreB]
    rw [e]
    simp
    omega
theorem line_words (f : B) (ws : List B) : ws.length + 1 ≤ (lineB f ws).length := by
  have := words_le ws
  simp only [lineB, List.length_append, List.length_cons, List.length_nil]
  omega
theorem setW_pos (gs : List Glyph) (l : List Int) : 1 ≤ (setW gs l).length := by
  by_cases h : l.length = 1
  · match l, h with
    | [n], _ => simp [setW]
  · rw [setW_more gs l h]; simp
theorem setsW_ge (gs : List Glyph) (l : List (List Int)) : l.length ≤ (setsW gs l).length := by
  induction l with
  | nil => simp
  | cons a l ih =>
    have h1 := setW_pos gs a
    have e : setsW gs (a :: l) = setW gs a ++ setsW gs l := by simp [setsW]
    rw [e, List.length_append, List.length_cons]
    omega
theorem rule_ok (w : World) (Bd g : Nat) (fc : Nat → Value) (txt : B) (gs : List Glyph) (kind : Int) (A0 B1 B2 B3 B4 : Option Addr) (c0 d1 d2 d3 d4 : Nat) (r : Rule)
    (hT : Tabs w) (hP : PN w g gs) (hgl : gs.length ≤ 1000000000000) (hp : Pr w Bd g fc txt) (hBd : Bd ≤ w.heap.size)
    (h0 : Sl RowR 1 w (FT w) A0 r.back) (h1 : Sl RowR 1 w (FT w) B1 r.in') (h2 : Sl RowR 1 w (FT w) B2 r.ahead) (h3 : Sl IntR 1 w (FT w) B3 r.out) (h4 : Sl CallR 2 w (FT w) B4 r.calls) (hx : I64 r.x)
    (hlen : txt.length + (ruleB gs kind r).length ≤ 10000000000) :
    Calls Tryd.prog 49 #[.pointer (some ⟨g, 0, none⟩), .int .i64 kind, .agg #[.slice A0 r.back.length c0, .slice B1 r.in'.length d1, .slice B2 r.ahead.length d2, .slice B3 r.out.length d3, .slice B4 r.calls.length d4, .int .i64 r.x]] w
      fun e w' => e = .returned (.tuple #[]) ∧ Pr w' Bd g fc (txt ++ ruleB gs kind r) ∧ KP w w' ∧ Below Bd w w' := by
  have hw := line_words sRule (ruleW gs kind r)
  have hrl : txt.length + (lineB sRule (ruleW gs kind r)).length ≤ 10000000000 := hlen
  have e : ∀ so, outW gs kind r = so → ruleW gs kind r = setsW gs r.back ++ [[47]] ++ setsW gs r.in' ++ [[47]] ++ setsW gs r.ahead ++ [[62]] ++ so := by
    intro so h
    simp [ruleW, h]
  have hlw : ∀ so, outW gs kind r = so → (setsW gs r.back).length + (setsW gs r.in').length + (setsW gs r.ahead).length + so.length + 3 ≤ 10000000000 := by
    intro so h
    have := congrArg List.length (e so h)
    simp only [List.length_append, List.length_cons, List.length_nil] at this
    omega
  have hHL : ∀ so, outW gs kind r = so → txt.length + (lineB sRule (setsW gs r.back ++ [[47]] ++ setsW gs r.in' ++ [[47]] ++ setsW gs r.ahead ++ [[62]] ++ so)).length ≤ 1000000000000 ∧ (setsW gs r.back ++ [[47]] ++ setsW gs r.in' ++ [[47]] ++ setsW gs r.ahead ++ [[62]] ++ so).length ≤ 1000000000000 := by
    intro so h
    rw [← e so h]
    exact ⟨by omega, by omega⟩
  have g0 := setsW_ge gs r.back
  have g1 := setsW_ge gs r.in'
  have g2 := setsW_ge gs r.ahead
  have hl0 := hlw _ rfl
  have S0 : Hid (∀ w', Below w.heap.size w w' → Calls Tryd.prog 71 #[.pointer (some ⟨g, 0, none⟩), .slice A0 r.back.length c0] w' (RetS w' (setsW gs r.back))) := fun w' hb => sets_ok' w' g gs A0 c0 r.back (hT.all hb) (hP.below hb) hgl ((KP.below hb).sl RowR.ok h0) (by omega) (by omega)
  have S1 : Hid (∀ w', Below w.heap.size w w' → Calls Tryd.prog 71 #[.pointer (some ⟨g, 0, none⟩), .slice B1 r.in'.length d1] w' (RetS w' (setsW gs r.in'))) := fun w' hb => sets_ok' w' g gs B1 d1 r.in' (hT.all hb) (hP.below hb) hgl ((KP.below hb).sl RowR.ok h1) (by omega) (by omega)
  have S2 : Hid (∀ w', Below w.heap.size w w' → Calls Tryd.prog 71 #[.pointer (some ⟨g, 0, none⟩), .slice B2 r.ahead.length d2] w' (RetS w' (setsW gs r.ahead))) := fun w' hb => sets_ok' w' g gs B2 d2 r.ahead (hT.all hb) (hP.below hb) hgl ((KP.below hb).sl RowR.ok h2) (by omega) (by omega)
  have S3 : r.out.length ≤ 10000000000 → Hid (∀ w', Below w.heap.size w w' → Calls Tryd.prog 72 #[.pointer (some ⟨g, 0, none⟩), .slice B3 r.out.length d3] w' (RetS w' (r.out.map (gnB gs)))) := fun ho w' hb => names_ok w' g gs B3 d3 r.out (hT.all hb) (hP.below hb) hgl ((KP.below hb).sl IntR.ok h3) (by omega)
  show Calls _ _ _ _ fun e w' => e = .returned (.tuple #[]) ∧ Pr w' Bd g fc (txt ++ lineB sRule (ruleW gs kind r)) ∧ KP w w' ∧ Below Bd w w'
  by_cases k1 : kind = 1
  · subst k1
    have hs : outW gs 1 r = r.out.map (gnB gs) := by simp [outW]
    exact rule_1 w Bd g fc txt A0 B1 B2 B3 B4 c0 d1 d2 d3 d4 r.back r.in' r.ahead r.out r.calls r.x _ _ _ _ hp hBd S0 S1 S2 (hlw _ hs) (S3 (by have := hlw _ hs; rw [List.length_map] at this; omega)) _ (e _ hs) (hHL _ hs)
  by_cases k2 : kind = 2
  · subst k2
    have hs : outW gs 2 r = r.out.map (gnB gs) := by simp [outW]
    exact rule_2 w Bd g fc txt A0 B1 B2 B3 B4 c0 d1 d2 d3 d4 r.back r.in' r.ahead r.out r.calls r.x _ _ _ _ hp hBd S0 S1 S2 (hlw _ hs) (S3 (by have := hlw _ hs; rw [List.length_map] at this; omega)) _ (e _ hs) (hHL _ hs)
  by_cases k3 : kind = 3
  · subst k3
    have hs : outW gs 3 r = r.out.map (gnB gs) := by simp [outW]
    exact rule_3 w Bd g fc txt A0 B1 B2 B3 B4 c0 d1 d2 d3 d4 r.back r.in' r.ahead r.out r.calls r.x _ _ _ _ hp hBd S0 S1 S2 (hlw _ hs) (S3 (by have := hlw _ hs; rw [List.length_map] at this; omega)) _ (e _ hs) (hHL _ hs)
  by_cases k5 : kind = 5
  · subst k5
    have hs : outW gs 5 r = r.out.map (gnB gs) := by simp [outW]
    exact rule_5 w Bd g fc txt A0 B1 B2 B3 B4 c0 d1 d2 d3 d4 r.back r.in' r.ahead r.out r.calls r.x _ _ _ _ hp hBd S0 S1 S2 (hlw _ hs) (S3 (by have := hlw _ hs; rw [List.length_map] at this; omega)) _ (e _ hs) (hHL _ hs)
  by_cases k4 : kind = 4
  · subst k4
    have hs : outW gs 4 r = r.calls.map (fun c => itB c.at' ++ 58 :: itB c.lookup) := by simp [outW]
    exact rule_4 w Bd g fc txt A0 B1 B2 B3 B4 c0 d1 d2 d3 d4 r.back r.in' r.ahead r.out r.calls r.x _ _ _ _ hp hBd S0 S1 S2 (hlw _ hs) hT h4 (by simp) rfl _ (e _ hs) (hHL _ hs)
  by_cases k6 : kind = 6
  · subst k6
    have hs : outW gs 6 r = [itB r.x] := by simp [outW]
    exact rule_6 w Bd g fc txt A0 B1 B2 B3 B4 c0 d1 d2 d3 d4 r.back r.in' r.ahead r.out r.calls r.x _ _ _ _ hp hBd S0 S1 S2 (hlw _ hs) (itB r.x) (fun w' hb => number_ok w' r.x (hT.all hb) hx) _ (e _ hs) (hHL _ hs)
  · have hs : outW gs kind r = [] := by simp [outW, k1, k2, k3, k4, k5, k6]
    have e' := e _ hs
    have hh := hHL _ hs
    rw [List.append_nil] at e' hh
    exact rule_else w Bd g fc txt A0 B1 B2 B3 B4 c0 d1 d2 d3 d4 r.back r.in' r.ahead r.out r.calls r.x _ _ _ [] hp hBd S0 S1 S2 (hlw _ hs) kind (by simpa using k1) (by simpa using k2) (by simpa using k3) (by simpa using k4) (by simpa using k5) (by simpa using k6) _ e' hh
/-- a line of words that have just been laid in a row -/
theorem line_lit (w1 : World) (hsz m : Nat) (hh : w1.heap.size = hsz) (Bd g : Nat) (fc : Nat → Value) (txt first : B) (us : List B) (hm : us.length = m) (h : Pr w1 Bd g fc txt) (hlen : txt.length + (lineB first us).length ≤ 10000000000) :
    Calls Tryd.prog 20 #[.pointer (some ⟨g, 0, none⟩), .string ⟨first.toArray⟩, .slice (some ⟨hsz, 0, none⟩) m m] (w1.alloc (.cells (strs us).toArray 9)) fun e w' => e = .returned (.tuple #[]) ∧ Pr w' Bd g fc (txt ++ lineB first us) ∧ KP w1 w' ∧ Below Bd w1 w' := by
  subst hh
  subst hm
  have hw := line_words first us
  have hlt := h.lt
  have hb : Below w1.heap.size w1 (w1.alloc (.cells (strs us).toArray 9)) := (Below.refl _ _).alloc (Nat.le_refl _) _
  have hs : Sl StrR 1 (w1.alloc (.cells (strs us).toArray 9)) (FT (w1.alloc (.cells (strs us).toArray 9))) (some ⟨w1.heap.size, 0, none⟩) us := by
    refine ⟨strs us, strs_fl _ _ _, fun _ => ⟨w1.heap.size, 0, rfl, ft_bk (Bk.new w1 9 (strs us).toArray) (by decide) (by decide), fun j u hu => ?_⟩⟩
    rw [Bk.cell (Bk.new w1 9 (strs us).toArray)]
    simpa using hu
  refine (line_ok _ Bd g fc txt first _ us.length us (h.below hb) hs (by omega) (by omega)).mono ?_
  rintro e w' ⟨he, hp, hk, hb'⟩
  exact ⟨he, hp, (KP.below hb).trans hk, (hb.mono (by omega)).trans hb'⟩
theorem flatB_take_le {α : Type} (f : α → B) (l : List α) (k : Nat) : ((l.take k).flatMap f).length ≤ (l.flatMap f).length := by
  conv => rhs; rw [← List.take_append_drop k l]
  simp only [List.flatMap_append, List.length_append]
  omega
theorem flatB_take_succ_le {α : Type} (f : α → B) (l : List α) (k : Nat) (x : α) (h : l[k]? = some x) : ((l.take k).flatMap f).length + (f x).length ≤ (l.flatMap f).length := by
  have := flatB_take_le f l (k + 1)
  rw [flat_take_snoc f l k x h, List.length_append] at this
  exact this
theorem outB_le (gs : List Glyph) (kind : Int) (r : Rule) : (ruleW gs kind r).length + 1 ≤ (ruleB gs kind r).length := line_words sRule _
theorem PN.kp {w w' : World} {Bd g : Nat} {fc : Nat → Value} {gs : List Glyph} {txt txt' : B} (h : PN w g gs) (hp : Pr w Bd g fc txt) (hp' : Pr w' Bd g fc txt') (hk : KP w w') : PN w' g gs := by
  obtain ⟨A, c, h1, h2⟩ := h
  obtain ⟨ad, v, -, q, -⟩ := hp
  obtain ⟨ad', v', -, q', -⟩ := hp'
  have e1 : w.cell? ⟨g, 1, none⟩ = some (fc 1) := Bk.cell q 1
  have e2 : w'.cell? ⟨g, 1, none⟩ = some (fc 1) := Bk.cell q' 1
  exact ⟨A, c, by rw [e2, ← e1, h1], hk.sl GlyphR.ok h2⟩
set_option maxRecDepth 100000 in
set_option maxHeartbeats 2000000 in
theorem lookup_ok (w : World) (Bd g : Nat) (fc : Nat → Value) (txt : B) (gs : List Glyph) (A : Option Addr) (c : Nat) (l : Lookup) (hT : Tabs w) (hG : nG ≤ Bd) (hP : PN w g gs) (hgl : gs.length ≤ 1000000000000) (hp : Pr w Bd g fc txt) (hBd : Bd ≤ w.heap.size)
    (hA : Sl RuleR 6 w (FT w) A l.rules) (hrl : l.rules.length ≤ 10000000000) (hlen : txt.length + (lookupB gs l).length ≤ 10000000000) :
    Calls Tryd.prog 27 #[.pointer (some ⟨g, 0, none⟩), .agg #[.int .i64 l.kind, .bool l.ignore, .slice A l.rules.length c]] w
      fun e w' => e = .returned (.tuple #[]) ∧ Pr w' Bd g fc (txt ++ lookupB gs l) ∧ KP w w' ∧ Below Bd w w' := by
  obtain ⟨kind, ign, rules⟩ := l
  dsimp only at hA hrl ⊢
  obtain ⟨T0, hT0⟩ : ∃ T0, lineB sLookup (pick kindNames kind :: if ign then [sIgnore] else []) = T0 := ⟨_, rfl⟩
  have hlen2 : txt.length + T0.length + (rules.flatMap (ruleB gs kind)).length ≤ 10000000000 := by
    unfold lookupB at hlen
    dsimp only at hlen
    rw [hT0, List.length_append] at hlen
    omega
  have HE : Hid (lookupB gs ⟨kind, ign, rules⟩ = T0 ++ rules.flatMap (ruleB gs kind)) := by rw [← hT0]; rfl
  clear hlen
  have HT0 := Lib.hid hT0
  clear hT0
  have hb0 : Below w.heap.size w (w.alloc (.cells #[.int .i64 kind, .bool ign, .slice A rules.length c] 60)) := (Below.refl _ _).alloc (Nat.le_refl _) _
  have hT1 := hT.all hb0
  have hp1 := hp.below hb0
  have hk0 := Lib.hid (Bk.new w 60 #[.int .i64 kind, .bool ign, .slice A rules.length c])
  have Hb0 := Lib.hid hb0
  have hpl := hp.lt
  clear hb0
  go_enter Tryd.func27, Tryd.ntmps27
  cases ign with
  | true =>
    have HT1 : Hid (lineB sLookup [pick kindNames kind, sIgnore] = T0) := Lib.hid (by have := HT0.out; simpa using this)
    have hll : txt.length + (lineB sLookup [pick kindNames kind, sIgnore]).length ≤ 10000000000 := by rw [HT1.out]; omega
    go_wp2_with (first
      | (go_at_call 48; refine (lookupName_ok _ kind hT1).mono ?_; rintro e w' ⟨rfl, rfl⟩)
      | (go_at_call 20; refine (line_lit _ (w.heap.size + 1) 2 (World.size_alloc _ _) Bd g fc txt sLookup [pick kindNames kind, sIgnore] rfl hp1 hll).mono ?_; rintro e w1 ⟨rfl, hp2, hk2, hb2⟩; have q2 : w1.cell? ⟨w.heap.size, 2, none⟩ = some (.slice A rules.length c) := Bk.cell (hk2.bk hk0.out (by decide) (by decide)) 2))
    go_loopw [23] (fun i wr => ∃ k : Nat, k ≤ rules.length ∧ i = .int .i64 k ∧ Pr wr Bd g fc (txt ++ T0 ++ (rules.take k).flatMap (ruleB gs kind)) ∧ KP (w.alloc (.cells #[.int .i64 kind, .bool true, .slice A rules.length c] 60)) wr ∧ Below Bd w wr) (fun i _ => rules.length - (intOf i).toNat)
    case atStart => exact ⟨0, Nat.zero_le _, rfl, by rw [← HT1.out]; simpa using hp2, hk2, (Hb0.out.mono hBd).trans hb2⟩
    case round =>
      obtain ⟨k, hk, rfl, hpr, hkp, hbl⟩ := hrel
      have q0 : wr.cell? ⟨w.heap.size, 0, none⟩ = some (.int .i64 kind) := Bk.cell (hkp.bk hk0.out (by decide) (by decide)) 0
      have zr : w.heap.size < wr.heap.size := World.block_lt_of_cell? _ _ q0
      clear q2
      by_cases hlt : k < rules.length
      · obtain ⟨b, o, x, E0, e0, E1, e1, E2, e2, E3, e3, E4, e4, rfl, -, hx, p0, p1, p2, p3, p4, p5, r5, j0, j1, j2, j3, j4⟩ := (hkp.sl RuleR.ok ((KP.below Hb0.out).sl RuleR.ok hA)).rule hlt
        have hsn := Lib.hid (flat_take_snoc (ruleB gs kind) rules k x hx.out)
        have hle := flatB_take_succ_le (ruleB gs kind) rules k x hx.out
        have hba : Below wr.heap.size wr (wr.alloc (.cells #[.slice E0 x.back.length e0, .slice E1 x.in'.length e1, .slice E2 x.ahead.length e2, .slice E3 x.out.length e3, .slice E4 x.calls.length e4, .int .i64 x.x] 78)) := (Below.refl _ _).alloc (Nat.le_refl _) _
        have hka := KP.below hba
        have hP0 : PN wr g gs := (hP.below Hb0.out).kp hp1 hpr hkp
        have hR := Lib.hid (rule_ok _ Bd g fc _ gs kind E0 E1 E2 E3 E4 e0 e1 e2 e3 e4 x ((hT.below hbl hG).all hba) (hP0.below hba) hgl (hpr.below hba) (Nat.le_trans hpl.1 (Nat.le_trans (Nat.le_of_lt (Nat.lt_of_lt_of_le hpl.2 (Nat.le_of_lt zr))) hba.size)) (hka.sl RowR.ok j0) (hka.sl RowR.ok j1) (hka.sl RowR.ok j2) (hka.sl IntR.ok j3) (hka.sl CallR.ok j4) r5 (by simp only [List.length_append]; omega))
        have Hka := Lib.hid hka
        have Hba := Lib.hid hba
        clear hx r5 j0 j1 j2 j3 j4 hle hka hba hP0
        go_wp2_with (go_at_call 49; refine hR.out.mono ?_; rintro e w3 ⟨rfl, hp3, hk3, hb3⟩)
        go_roundw
        case rel => exact ⟨k + 1, by omega, by simp, by rw [hsn.out, ← List.append_assoc]; exact hp3, hkp.trans (Hka.out.trans hk3), hbl.trans ((Hba.out.mono (by omega)).trans hb3)⟩
        case measure => simp [intOf]; omega
      · obtain rfl : k = rules.length := by omega
        rw [List.take_length] at hpr
        go_wp2
        go_end0
        refine ⟨rfl, ?_, (KP.below Hb0.out).trans hkp, hbl⟩
        rw [HE.out, ← List.append_assoc]
        exact hpr
  | false =>
    have HT1 : Hid (lineB sLookup [pick kindNames kind] = T0) := Lib.hid (by have := HT0.out; simpa using this)
    have hll : txt.length + (lineB sLookup [pick kindNames kind]).length ≤ 10000000000 := by rw [HT1.out]; omega
    go_wp2_with (first
      | (go_at_call 48; refine (lookupName_ok _ kind hT1).mono ?_; rintro e w' ⟨rfl, rfl⟩)
      | (go_at_call 20; refine (line_lit _ (w.heap.size + 1) 1 (World.size_alloc _ _) Bd g fc txt sLookup [pick kindNames kind] rfl hp1 hll).mono ?_; rintro e w1 ⟨rfl, hp2, hk2, hb2⟩; have q2 : w1.cell? ⟨w.heap.size, 2, none⟩ = some (.slice A rules.length c) := Bk.cell (hk2.bk hk0.out (by decide) (by decide)) 2))
    go_loopw [23] (fun i wr => ∃ k : Nat, k ≤ rules.length ∧ i = .int .i64 k ∧ Pr wr Bd g fc (txt ++ T0 ++ (rules.take k).flatMap (ruleB gs kind)) ∧ KP (w.alloc (.cells #[.int .i64 kind, .bool false, .slice A rules.length c] 60)) wr ∧ Below Bd w wr) (fun i _ => rules.length - (intOf i).toNat)
    case atStart => exact ⟨0, Nat.zero_le _, rfl, by rw [← HT1.out]; simpa using hp2, hk2, (Hb0.out.mono hBd).trans hb2⟩
    case round =>
      obtain ⟨k, hk, rfl, hpr, hkp, hbl⟩ := hrel
      have q0 : wr.cell? ⟨w.heap.size, 0, none⟩ = some (.int .i64 kind) := Bk.cell (hkp.bk hk0.out (by decide) (by decide)) 0
      have zr : w.heap.size < wr.heap.size := World.block_lt_of_cell? _ _ q0
      clear q2
      by_cases hlt : k < rules.length
      · obtain ⟨b, o, x, E0, e0, E1, e1, E2, e2, E3, e3, E4, e4, rfl, -, hx, p0, p1, p2, p3, p4, p5, r5, j0, j1, j2, j3, j4⟩ := (hkp.sl RuleR.ok ((KP.below Hb0.out).sl RuleR.ok hA)).rule hlt
        have hsn := Lib.hid (flat_take_snoc (ruleB gs kind) rules k x hx.out)
        have hle := flatB_take_succ_le (ruleB gs kind) rules k x hx.out
        have hba : Below wr.heap.size wr (wr.alloc (.cells #[.slice E0 x.back.length e0, .slice E1 x.in'.length e1, .slice E2 x.ahead.length e2, .slice E3 x.out.length e3, .slice E4 x.calls.length e4, .int .i64 x.x] 78)) := (Below.refl _ _).alloc (Nat.le_refl _) _
        have hka := KP.below hba
        have hP0 : PN wr g gs := (hP.below Hb0.out).kp hp1 hpr hkp
        have hR := Lib.hid (rule_ok _ Bd g fc _ gs kind E0 E1 E2 E3 E4 e0 e1 e2 e3 e4 x ((hT.below hbl hG).all hba) (hP0.below hba) hgl (hpr.below hba) (Nat.le_trans hpl.1 (Nat.le_trans (Nat.le_of_lt (Nat.lt_of_lt_of_le hpl.2 (Nat.le_of_lt zr))) hba.size)) (hka.sl RowR.ok j0) (hka.sl RowR.ok j1) (hka.sl RowR.ok j2) (hka.sl IntR.ok j3) (hka.sl CallR.ok j4) r5 (by simp only [List.length_append]; omega))
        have Hka := Lib.hid hka
        have Hba := Lib.hid hba
        clear hx r5 j0 j1 j2 j3 j4 hle hka hba hP0
        go_wp2_with (go_at_call 49; refine hR.out.mono ?_; rintro e w3 ⟨rfl, hp3, hk3, hb3⟩)
        go_roundw
        case rel => exact ⟨k + 1, by omega, by simp, by rw [hsn.out, ← List.append_assoc]; exact hp3, hkp.trans (Hka.out.trans hk3), hbl.trans ((Hba.out.mono (by omega)).trans hb3)⟩
        case measure => simp [intOf]; omega
      · obtain rfl : k = rules.length := by omega
        rw [List.take_length] at hpr
        go_wp2
        go_end0
        refine ⟨rfl, ?_, (KP.below Hb0.out).trans hkp, hbl⟩
        rw [HE.out, ← List.append_assoc]
        exact hpr
end Go.Proofs.YtkijckccfookeaaDoor
