/- Plain Lean: a source made of lines of words is read as those lines. -/
import Derived.Test.YtkijckccfookeaaGreatDoorM04
namespace Go.Proofs.YtkijckccfookeaaGreatDoor
open Go.RowKit

/-- a byte that may stand in a word -/
def tokC (c : UInt8) : Bool := c != 32 && c != 9 && c != 10 && c != 35
/-- a word -/
def tokB (w : B) : Bool := !w.isEmpty && w.all tokC
theorem tokC_nb {c : UInt8} (h : tokC c = true) : blank c = false ∧ c ≠ 35 ∧ c ≠ 10 := by
  simp only [tokC, Bool.and_eq_true, bne_iff_ne, ne_eq] at h
  exact ⟨by simp [blank, h.1.1.1, h.1.1.2], h.2, h.1.2⟩
theorem tokB_ne {w : B} (h : tokB w = true) : w ≠ [] := by
  intro e; subst e; simp [tokB] at h
theorem tokB_c {w : B} (h : tokB w = true) : ∀ c ∈ w, tokC c = true := by
  simp only [tokB, Bool.and_eq_true, List.all_eq_true] at h
  exact h.2
/-- a line of words -/
def lnB (ws : List B) : B := match ws with | [] => [10] | w :: r => lineB w r
/-- the words, each with its place -/
def posL : Nat → List B → List (Nat × B)
  | _, [] => []
  | k, w :: r => (k, w) :: posL (k + w.length + 1) r
theorem posL_snd (k : Nat) (ws : List B) : (posL k ws).map (·.2) = ws := by
  induction ws generalizing k with
  | nil => rfl
  | cons w r ih => simp [posL, ih]
theorem fold_word (σ : St) (w : B) (hw : tokB w = true) (hc : σ.cur = []) : w.foldl step σ = ⟨σ.at' + w.length, σ.at', w, σ.told⟩ := by
  cases w with
  | nil => simp [tokB] at hw
  | cons c r =>
    have h1 := tokC_nb (tokB_c hw c (by simp))
    rw [List.foldl_cons, step_wide _ r (by unfold step; simp [h1.1]) (fun d hd => (tokC_nb (tokB_c hw d (by simp [hd]))).1)]
    unfold step
    simp [h1.1, hc]
    omega
theorem fold_more (ws : List B) (σ : St) (hc : σ.cur ≠ []) (h : ∀ w ∈ ws, tokB w = true) : ((moreB ws).foldl step σ).all = σ.told ++ [(σ.fr, σ.cur)] ++ posL (σ.at' + 1) ws := by
  induction ws generalizing σ with
  | nil => simp [moreB, posL, St.all, St.pend, hc]
  | cons w r ih =>
    have e : moreB (w :: r) = 32 :: (w ++ moreB r) := by simp [moreB]
    have hs : step σ 32 = ⟨σ.at' + 1, 0, [], σ.all⟩ := by unfold step; rw [if_pos (by decide)]
    rw [e, List.foldl_cons, List.foldl_append, hs, fold_word _ w (h w (by simp)) rfl, ih _ (tokB_ne (h w (by simp))) (fun x hx => h x (by simp [hx]))]
    simp [St.all, St.pend, hc, posL]
    all_goals omega
theorem code_tok (l : B) (h : ∀ c ∈ l, c ≠ 35) : code l = l := by
  unfold code
  induction l with
  | nil => rfl
  | cons d r ih => rw [List.takeWhile_cons_of_pos (by simpa using h d (by simp)), ih (fun c hc => h c (by simp [hc]))]
theorem more_no (ws : List B) (h : ∀ w ∈ ws, tokB w = true) : ∀ c ∈ moreB ws, c ≠ 35 ∧ c ≠ 10 := by
  intro c hc
  simp only [moreB, List.mem_flatMap, List.mem_cons] at hc
  obtain ⟨w, hw, hc | hc⟩ := hc
  · subst hc; decide
  · exact (tokC_nb (tokB_c (h w hw) c hc)).2
theorem one_line (w : B) (ws : List B) (h : ∀ x ∈ w :: ws, tokB x = true) : one (w ++ moreB ws) = posL 0 (w :: ws) := by
  have hn : ∀ c ∈ w ++ moreB ws, c ≠ 35 := by
    intro c hc
    rw [List.mem_append] at hc
    rcases hc with hc | hc
    · exact (tokC_nb (tokB_c (h w (by simp)) c hc)).2.1
    · exact (more_no ws (fun x hx => h x (by simp [hx])) c hc).1
  rw [one, code_tok _ hn, run, List.foldl_append, fold_word st0 w (h w (by simp)) rfl, fold_more ws _ (tokB_ne (h w (by simp))) (fun x hx => h x (by simp [hx]))]
  simp [posL, st0]
/-- lines, numbered -/
def enumW : Nat → List (List B) → List (List Wd)
  | _, [] => []
  | n, l :: ls => num n (posL 0 l) :: enumW (n + 1) ls
def enumL : Nat → List (List B) → List (Int × List B)
  | _, [] => []
  | n, l :: ls => ((n : Int), l) :: enumL (n + 1) ls
def okL (L : List (List B)) : Prop := ∀ l ∈ L, l ≠ [] ∧ ∀ w ∈ l, tokB w = true
theorem lines_from (L : List (List B)) (n : Nat) (h : okL L) : linesFrom n (pcs (L.flatMap lnB)) = enumW n L := by
  induction L generalizing n with
  | nil => simp [pcs, linesFrom, enumW, one, code, run, st0, St.all, St.pend]
  | cons l ls ih =>
    obtain ⟨h1, h2⟩ := h l (by simp)
    cases l with
    | nil => exact absurd rfl h1
    | cons w r =>
      have hno : ∀ c ∈ w ++ moreB r, c ≠ 10 := by
        intro c hc
        rw [List.mem_append] at hc
        rcases hc with hc | hc
        · exact (tokC_nb (tokB_c (h2 w (by simp)) c hc)).2.2
        · exact (more_no r (fun x hx => h2 x (by simp [hx])) c hc).2
      have e : ((w :: r) :: ls).flatMap lnB = (w ++ moreB r) ++ 10 :: ls.flatMap lnB := by simp [lnB, lineB]
      rw [e, pcs_app _ _ hno, linesFrom, one_line w r h2, ih (n + 1) (fun x hx => h x (by simp [hx]))]
      simp [posL, enumW]
theorem lines_src (L : List (List B)) (h : okL L) : linesL (L.flatMap lnB) = enumW 1 L := lines_from L 1 h
theorem enumW_T (L : List (List B)) (n : Nat) (h : okL L) : (enumW n L).map (fun l => ((l.head?.map (·.1)).getD 0, l.map (·.2.2))) = enumL n L := by
  induction L generalizing n with
  | nil => rfl
  | cons l ls ih =>
    obtain ⟨h1, h2⟩ := h l (by simp)
    cases l with
    | nil => exact absurd rfl h1
    | cons w r =>
      simp only [enumW, List.map_cons, enumL, ih (n + 1) (fun x hx => h x (by simp [hx]))]
      congr 1
      simp only [num, posL, List.map_cons, List.head?_cons, Option.map_some, Option.getD_some, List.map_map, Prod.mk.injEq, true_and]
      congr 1
      have := posL_snd (0 + w.length + 1) r
      simpa [Function.comp_def] using this
theorem linesT_src (L : List (List B)) (h : okL L) : linesT (L.flatMap lnB) = enumL 1 L := by
  rw [linesT, lines_src L h, enumW_T L 1 h]
theorem enumL_snd (n : Nat) (L : List (List B)) : (enumL n L).map (·.2) = L := by
  induction L generalizing n with
  | nil => rfl
  | cons l ls ih => simp [enumL, ih]
theorem enumL_app (n : Nat) (a b : List (List B)) : enumL n (a ++ b) = enumL n a ++ enumL (n + a.length) b := by
  induction a generalizing n with
  | nil => simp [enumL]
  | cons l ls ih =>
    simp only [List.cons_append, enumL, ih, List.length_cons]
    rw [show n + 1 + ls.length = n + (ls.length + 1) by omega]
theorem stmts_app (gl : Gl) (s : PS) (a b : List (Int × List B)) : stmts gl s (a ++ b) = (match stmts gl s a with | .ok s' => stmts gl s' b | .error e => .error e) := by
  induction a generalizing s with
  | nil => rfl
  | cons x a ih =>
    obtain ⟨n, l⟩ := x
    simp only [List.cons_append, stmts]
    cases stmt gl s l with
    | error e => rfl
    | ok s' => exact ih s'
end Go.Proofs.YtkijckccfookeaaGreatDoor
/- Plain Lean: what a right font is; numbers, names, instructions, points as words, and back. -/
namespace Go.Proofs.YtkijckccfookeaaGreatDoor
open Go.RowKit

def N9 (n : Int) : Prop := -999999999 ≤ n ∧ n ≤ 999999999
def OkC (p : List Ins) : Prop := ∀ i ∈ p, 1 ≤ i.op ∧ i.op ≤ 39 ∧ N9 i.a
def In (n : Nat) (x : Int) : Prop := 0 ≤ x ∧ x < n
def endsOk : Nat → List Int → Nat → Prop
  | fr, [], len => fr = len
  | fr, e :: es, len => (fr : Int) ≤ e ∧ e < len ∧ endsOk (e.toNat + 1) es len
structure OkG (n : Nat) (g : Glyph) : Prop where
  name : nameB g.name = true
  adv : N9 g.advance
  pts : ∀ p ∈ g.points, N9 p.x ∧ N9 p.y
  ends : endsOk 0 g.ends g.points.length
  parts : ∀ p ∈ g.parts, In n p.glyph ∧ N9 p.x ∧ N9 p.y
  anch : ∀ a ∈ g.anchors, 1 ≤ a.kind ∧ a.kind ≤ 4 ∧ N9 a.cls ∧ N9 a.x ∧ N9 a.y
  dels : ∀ d ∈ g.deltas, N9 d.region ∧ N9 d.point ∧ N9 d.x ∧ N9 d.y
  hint : OkC g.hint
def OkS (n : Nat) (s : List Int) : Prop := s.Pairwise (· < ·) ∧ ∀ x ∈ s, In n x
structure OkR (n : Nat) (kind : Int) (r : Rule) : Prop where
  back : ∀ s ∈ r.back, OkS n s
  in' : ∀ s ∈ r.in', OkS n s
  ahead : ∀ s ∈ r.ahead, OkS n s
  out : ∀ x ∈ r.out, In n x
  calls : ∀ c ∈ r.calls, N9 c.at' ∧ N9 c.lookup
  x : N9 r.x
  one : kind = 1 ∨ kind = 5 → ∃ s, r.in' = [s] ∧ r.out.length = s.length
  outs : kind = 4 ∨ 6 ≤ kind → r.out = []
  noC : kind ≠ 4 → r.calls = []
  noX : kind ≠ 6 → r.x = 0
structure RightF (f : Fnt) : Prop where
  unit : N9 f.unit
  axes : ∀ a ∈ f.axes, nameB a.name = true ∧ N9 a.min' ∧ N9 a.def' ∧ N9 a.max'
  regs : ∀ r ∈ f.regions, ∀ t ∈ r.tents, N9 t.start ∧ N9 t.peak ∧ N9 t.stop
  cvt : ∀ n ∈ f.cvt, N9 n
  funcs : ∀ p ∈ f.funcs, OkC p
  apart : (f.glyphs.map (·.name)).Nodup
  glyphs : ∀ g ∈ f.glyphs, OkG f.glyphs.length g
  chars : ∀ c ∈ f.chars, N9 c.rune ∧ In f.glyphs.length c.glyph
  lookups : ∀ l ∈ f.lookups, 1 ≤ l.kind ∧ l.kind ≤ 8 ∧ ∀ r ∈ l.rules, OkR f.glyphs.length l.kind r
  feats : ∀ x ∈ f.features, nameB x.name = true ∧ ∀ n ∈ x.lookups, N9 n
  few : f.glyphs.length ≤ 1000

/-- bytes of numbers: digits, a sign -/
def numC (c : UInt8) : Bool := digitB c || c == 45
theorem dec_digits (u : Nat) : ∀ c ∈ Lib.decDigits u, digitB c = true := by
  induction u using Nat.strongRecOn with
  | _ u ih =>
    rw [Lib.decDigits]
    split
    · intro c hc
      simp only [List.mem_singleton] at hc
      subst hc
      rw [digitB_iff, UInt8.toNat_ofNat']
      omega
    · intro c hc
      rw [List.mem_append, List.mem_singleton] at hc
      rcases hc with hc | rfl
      · exact ih (u / 10) (by omega) c hc
      · rw [digitB_iff, UInt8.toNat_ofNat']
        omega
theorem dec_val (u : Nat) : valB (Lib.decDigits u) = u := by
  induction u using Nat.strongRecOn with
  | _ u ih =>
    rw [Lib.decDigits]
    split
    · have e : [UInt8.ofNat (48 + u)] = [] ++ [UInt8.ofNat (48 + u)] := rfl
      rw [e, valB_snoc, UInt8.toNat_ofNat']
      have : valB [] = 0 := rfl
      omega
    · rw [valB_snoc, ih (u / 10) (by omega), UInt8.toNat_ofNat']
      omega
theorem nDig_le (k : Nat) : ∀ u, u < 10 ^ (k + 1) → Lib.nDigits u ≤ k + 1 := by
  induction k with
  | zero => intro u hu; rw [Lib.nDigits_small (by simpa using hu)]; exact Nat.le_refl _
  | succ k ih =>
    intro u hu
    by_cases h : u < 10
    · rw [Lib.nDigits_small h]; omega
    · rw [Lib.nDigits_big h]
      have := ih (u / 10) (by rw [Nat.pow_succ] at hu; omega)
      omega
theorem dec_len (u : Nat) (h : u ≤ 999999999) : 1 ≤ (Lib.decDigits u).length ∧ (Lib.decDigits u).length ≤ 9 := by
  rw [Lib.decDigits_length]
  exact ⟨Lib.nDigits_pos u, nDig_le 8 u (by show u < 1000000000; omega)⟩
theorem dec_num (u : Nat) (h : u ≤ 999999999) : numD (Lib.decDigits u) = true := numD_yes _ (dec_digits u) (dec_len u h).1 (dec_len u h).2
theorem dec_head (u : Nat) : ∃ c r, Lib.decDigits u = c :: r ∧ c ≠ 45 := by
  cases h : Lib.decDigits u with
  | nil => have := Lib.decDigits_length u; have := Lib.nDigits_pos u; rw [h] at *; simp at *; omega
  | cons c r =>
    refine ⟨c, r, rfl, fun e => ?_⟩
    have := dec_digits u c (by rw [h]; simp)
    rw [e] at this
    revert this
    decide
theorem it_num (n : Int) (h : N9 n) : numOk (itB n) = true ∧ numV (itB n) = n := by
  unfold N9 at h
  unfold itB Lib.itoa
  split
  · have e : unsign (45 :: Lib.decDigits n.natAbs) = Lib.decDigits n.natAbs := rfl
    have e2 : signed (45 :: Lib.decDigits n.natAbs) = true := rfl
    have e3 := dec_num n.natAbs (by omega)
    refine ⟨by rw [numOk, e, e3], ?_⟩
    rw [numV, e, e2, if_pos e3, if_pos rfl, dec_val]
    omega
  · obtain ⟨c, r, h1, h2⟩ := dec_head n.toNat
    have e : unsign (Lib.decDigits n.toNat) = Lib.decDigits n.toNat ∧ signed (Lib.decDigits n.toNat) = false := by
      rcases unsign_cases (Lib.decDigits n.toNat) with ⟨r', h, _⟩ | ⟨h3, h4, _⟩
      · rw [h1] at h
        injection h with h _
        exact absurd h h2
      · exact ⟨h3, h4⟩
    have e3 := dec_num n.toNat (by omega)
    refine ⟨by rw [numOk, e.1, e3], ?_⟩
    rw [numV, e.1, e.2, if_pos e3, dec_val]
    simp
    omega
theorem it_c (n : Int) : ∀ c ∈ itB n, numC c = true := by
  intro c hc
  unfold itB Lib.itoa at hc
  split at hc
  · rw [List.mem_cons] at hc
    rcases hc with rfl | hc
    · decide
    · simp [numC, dec_digits _ c hc]
  · simp [numC, dec_digits _ c hc]
theorem it_ne (n : Int) : itB n ≠ [] := by
  unfold itB Lib.itoa
  split
  · simp
  · obtain ⟨c, r, h1, h2⟩ := dec_head n.toNat
    rw [h1]
    simp
theorem numC_tok {c : UInt8} (h : numC c = true) : tokC c = true ∧ c ≠ 58 ∧ c ≠ 44 ∧ c ≠ 42 ∧ c ≠ 64 ∧ c ≠ 47 ∧ c ≠ 62 ∧ c ≠ 91 ∧ c ≠ 93 := by
  simp only [numC, Bool.or_eq_true, digitB_iff, beq_iff_eq] at h
  refine ⟨?_, ?_, ?_, ?_, ?_, ?_, ?_, ?_, ?_⟩
  · simp only [tokC, Bool.and_eq_true, bne_iff_ne, ne_eq]
    refine ⟨⟨⟨?_, ?_⟩, ?_⟩, ?_⟩ <;> (rintro rfl; revert h; decide)
  all_goals (rintro rfl; revert h; decide)
theorem it_tok (n : Int) : tokB (itB n) = true := by
  simp only [tokB, Bool.and_eq_true, Bool.not_eq_true', List.isEmpty_eq_false_iff, List.all_eq_true]
  exact ⟨it_ne n, fun c hc => (numC_tok (it_c n c hc)).1⟩
theorem eNum_ok (n : Int) (h : N9 n) (e : Int) : eNum e (itB n) = e := by
  rw [eNum, if_neg (by rw [(it_num n h).1]; simp)]
theorem eNums_ok (l : List Int) (h : ∀ n ∈ l, N9 n) (e : Int) : eNums e (l.map itB) = e := by
  induction l generalizing e with
  | nil => rfl
  | cons n r ih =>
    have : eNums e ((n :: r).map itB) = eNums (eNum e (itB n)) (r.map itB) := rfl
    rw [this, eNum_ok n (h n (by simp)), ih (fun m hm => h m (by simp [hm]))]
theorem numV_map (l : List Int) (h : ∀ n ∈ l, N9 n) : (l.map itB).map numV = l := by
  rw [List.map_map]
  conv => rhs; rw [← List.map_id l]
  exact List.map_congr_left (fun n hn => (it_num n (h n hn)).2)
/-- bytes of names -/
theorem name_c {s : B} (h : nameB s = true) : ∀ c ∈ s, tokC c = true ∧ c ≠ 58 ∧ c ≠ 44 ∧ c ≠ 42 ∧ c ≠ 64 ∧ c ≠ 47 ∧ c ≠ 62 ∧ c ≠ 91 ∧ c ≠ 93 := by
  intro c hc
  obtain ⟨k, hk⟩ := List.mem_iff_getElem?.1 hc
  have ha : nameAt k c = true := by
    rw [← Bool.not_eq_false]
    intro hf
    rw [nameB_no s k c hk hf] at h
    cases h
  rw [nameAt_iff] at ha
  refine ⟨?_, ?_, ?_, ?_, ?_, ?_, ?_, ?_, ?_⟩
  · simp only [tokC, Bool.and_eq_true, bne_iff_ne, ne_eq]
    refine ⟨⟨⟨?_, ?_⟩, ?_⟩, ?_⟩ <;> (rintro rfl; simp at ha)
  all_goals (rintro rfl; simp at ha)
theorem name_ne {s : B} (h : nameB s = true) : s ≠ [] := by
  rintro rfl
  revert h
  decide
theorem name_tok {s : B} (h : nameB s = true) : tokB s = true := by
  simp only [tokB, Bool.and_eq_true, Bool.not_eq_true', List.isEmpty_eq_false_iff, List.all_eq_true]
  exact ⟨name_ne h, fun c hc => (name_c h c hc).1⟩
theorem eName_ok {s : B} (h : nameB s = true) (e : Int) : eName e s = e := by rw [eName, if_neg (by rw [h]; simp)]
/-- cutting at a sign -/
theorem cut_at {c : UInt8} {a b : B} (h : ∀ d ∈ a, d ≠ c) : cutL c (a ++ c :: b) = a ∧ cutR c (a ++ c :: b) = b := by
  induction a with
  | nil => simp [cutL, cutR]
  | cons d r ih =>
    obtain ⟨i1, i2⟩ := ih (fun x hx => h x (by simp [hx]))
    have hd : (d != c) = true := by simpa using h d (by simp)
    constructor
    · show List.takeWhile (· != c) (d :: (r ++ c :: b)) = _
      rw [List.takeWhile_cons_of_pos (p := fun x => x != c) hd]
      exact congrArg _ i1
    · show (List.dropWhile (· != c) (d :: (r ++ c :: b))).drop 1 = _
      rw [List.dropWhile_cons_of_pos (p := fun x => x != c) hd]
      exact i2
theorem cut_no {c : UInt8} {a : B} (h : ∀ d ∈ a, d ≠ c) : cutL c a = a ∧ cutR c a = [] := by
  induction a with
  | nil => simp [cutL, cutR]
  | cons d r ih =>
    obtain ⟨i1, i2⟩ := ih (fun x hx => h x (by simp [hx]))
    have hd : (d != c) = true := by simpa using h d (by simp)
    constructor
    · show List.takeWhile (· != c) (d :: r) = _
      rw [List.takeWhile_cons_of_pos (p := fun x => x != c) hd]
      exact congrArg _ i1
    · show (List.dropWhile (· != c) (d :: r)).drop 1 = _
      rw [List.dropWhile_cons_of_pos (p := fun x => x != c) hd]
      exact i2
theorem count_none {c : UInt8} {a : B} (h : ∀ d ∈ a, d ≠ c) : a.count c = 0 := List.count_eq_zero.2 (fun hm => h c hm rfl)
theorem contains_none {c : UInt8} {a : B} (h : ∀ d ∈ a, d ≠ c) : a.contains c = false := by
  rw [← Bool.not_eq_true, List.contains_iff_mem]
  exact fun hm => h c hm rfl
/-- instructions -/
def opTab : List B := opNames
theorem op_facts : ∀ k : Fin 39, ∃ s, opNames[k.val]? = some s ∧ opN s = (k.val : Int) + 1 ∧ tokB s = true ∧ (∀ c ∈ s, c ≠ 58 ∧ c ≠ 44 ∧ c ≠ 42 ∧ c ≠ 47 ∧ c ≠ 62) := by decide +kernel
theorem opB_facts (n : Int) (h1 : 1 ≤ n) (h2 : n ≤ 39) : opN (opB n) = n ∧ tokB (opB n) = true ∧ ∀ c ∈ opB n, c ≠ 58 ∧ c ≠ 44 ∧ c ≠ 42 ∧ c ≠ 47 ∧ c ≠ 62 := by
  obtain ⟨s, e1, e2, e3, e4⟩ := op_facts ⟨(n - 1).toNat, by omega⟩
  have : opB n = s := by
    unfold opB pick
    rw [if_neg (by omega)]
    simp only at e1
    rw [e1]
    rfl
  rw [this]
  simp only at e2
  exact ⟨by omega, e3, e4⟩
theorem rtIns_ok (i : Ins) (h : 1 ≤ i.op ∧ i.op ≤ 39 ∧ N9 i.a) (e : Int) : eOp e (insB i) = e ∧ vOp (insB i) = i ∧ (insB i).count 58 ≤ 1 ∧ tokB (insB i) = true := by
  obtain ⟨h1, h2, h3⟩ := h
  obtain ⟨f1, f2, f3⟩ := opB_facts i.op h1 h2
  have hc : ∀ d ∈ opB i.op, d ≠ 58 := fun d hd => (f3 d hd).1
  by_cases h0 : i.a = 0
  · have e1 : insB i = opB i.op := by simp [insB, h0]
    obtain ⟨c1, c2⟩ := cut_no hc
    rw [e1, eOp, vOp, contains_none hc, c1, f1, count_none hc]
    refine ⟨?_, ?_, by omega, f2⟩
    · simp
      omega
    · cases i
      simp_all
  · have e1 : insB i = opB i.op ++ 58 :: itB i.a := by simp [insB, h0]
    obtain ⟨c1, c2⟩ := cut_at (b := itB i.a) hc
    have hm : (opB i.op ++ 58 :: itB i.a).contains 58 = true := by simp
    have hn : ∀ d ∈ itB i.a, d ≠ 58 := fun d hd => (numC_tok (it_c _ d hd)).2.1
    rw [e1, eOp, vOp, if_pos hm, if_pos hm, c1, c2, f1, (it_num i.a h3).2]
    refine ⟨?_, ?_, ?_, ?_⟩
    · rw [if_neg (by omega), eNum_ok _ h3]
    · cases i; rfl
    · rw [List.count_append, List.count_cons, count_none hc, count_none hn]
      simp
    · simp only [tokB, Bool.and_eq_true, Bool.not_eq_true', List.isEmpty_eq_false_iff, List.all_eq_true, List.mem_append, List.mem_cons]
      refine ⟨by simp, fun c hc => ?_⟩
      rcases hc with hc | rfl | hc
      · exact tokB_c f2 c hc
      · decide
      · exact (numC_tok (it_c _ c hc)).1
theorem rtCode_ok (p : List Ins) (h : OkC p) (e : Int) : (p.map insB).foldl eOp e = e ∧ (p.map insB).map vOp = p ∧ opsOk (p.map insB) = true ∧ ∀ w ∈ p.map insB, tokB w = true := by
  induction p generalizing e with
  | nil => exact ⟨rfl, rfl, rfl, by simp⟩
  | cons i r ih =>
    obtain ⟨a1, a2, a3, a4⟩ := rtIns_ok i (h i (by simp)) e
    obtain ⟨b1, b2, b3, b4⟩ := ih (fun j hj => h j (by simp [hj])) e
    refine ⟨?_, ?_, ?_, ?_⟩
    · rw [List.map_cons, List.foldl_cons, a1, b1]
    · rw [List.map_cons, List.map_cons, a2, b2]
    · unfold opsOk at b3 ⊢
      rw [List.map_cons, List.all_cons, b3]
      simpa using a3
    · intro w hw
      rw [List.map_cons, List.mem_cons] at hw
      rcases hw with rfl | hw
      · exact a4
      · exact b4 w hw
/-- points -/
theorem rtPt_ok (p : Pt) (h : N9 p.x ∧ N9 p.y) (e : Int) : ePt e (ptB p) = e ∧ vPt (ptB p) = p ∧ ptOk (ptB p) = true ∧ tokB (ptB p) = true := by
  obtain ⟨h1, h2⟩ := h
  have n1 : ∀ d ∈ itB p.x, d ≠ 44 := fun d hd => (numC_tok (it_c _ d hd)).2.2.1
  have n2 : ∀ d ∈ itB p.y, d ≠ 44 := fun d hd => (numC_tok (it_c _ d hd)).2.2.1
  have s1 : ∀ d ∈ itB p.x, d ≠ 42 := fun d hd => (numC_tok (it_c _ d hd)).2.2.2.1
  have s2 : ∀ d ∈ itB p.y, d ≠ 42 := fun d hd => (numC_tok (it_c _ d hd)).2.2.2.1
  have hs : ∀ d ∈ itB p.x ++ 44 :: itB p.y, d ≠ 42 := by
    intro d hd
    rw [List.mem_append, List.mem_cons] at hd
    rcases hd with hd | rfl | hd
    · exact s1 d hd
    · decide
    · exact s2 d hd
  obtain ⟨c1, c2⟩ := cut_at (b := itB p.y) n1
  have hcnt : (itB p.x ++ 44 :: itB p.y).count 44 = 1 := by
    rw [List.count_append, List.count_cons, count_none n1, count_none n2]
    simp
  have htok : ∀ c ∈ itB p.x ++ 44 :: itB p.y, tokC c = true := by
    intro d hd
    rw [List.mem_append, List.mem_cons] at hd
    rcases hd with hd | rfl | hd
    · exact (numC_tok (it_c _ d hd)).1
    · decide
    · exact (numC_tok (it_c _ d hd)).1
  cases hon : p.on with
  | true =>
    have e1 : ptB p = itB p.x ++ 44 :: itB p.y := by simp [ptB, hon]
    have hl : (itB p.x ++ 44 :: itB p.y).getLast? ≠ some 42 := fun h => hs 42 (List.mem_of_getLast? h) rfl
    have hu : unStar (itB p.x ++ 44 :: itB p.y) = itB p.x ++ 44 :: itB p.y := by rw [unStar, if_neg hl]
    rw [e1, ePt, vPt, ptOk, hu, c1, c2, hcnt, contains_none hs, eNum_ok _ h1, eNum_ok _ h2, (it_num _ h1).2, (it_num _ h2).2]
    refine ⟨rfl, ?_, rfl, ?_⟩
    · cases p
      simp_all
    · simp only [tokB, Bool.and_eq_true, Bool.not_eq_true', List.isEmpty_eq_false_iff, List.all_eq_true]
      exact ⟨by simp, htok⟩
  | false =>
    have e1 : ptB p = (itB p.x ++ 44 :: itB p.y) ++ [42] := by simp [ptB, hon]
    have hl : ((itB p.x ++ 44 :: itB p.y) ++ [42]).getLast? = some 42 := List.getLast?_concat
    have hu : unStar ((itB p.x ++ 44 :: itB p.y) ++ [42]) = itB p.x ++ 44 :: itB p.y := by rw [unStar, if_pos hl, List.dropLast_concat]
    have hcnt2 : ((itB p.x ++ 44 :: itB p.y) ++ [42]).count 44 = 1 := by rw [List.count_append, hcnt]; rfl
    have hidx : ((itB p.x ++ 44 :: itB p.y) ++ [42]).idxOf 42 = (itB p.x ++ 44 :: itB p.y).length := by
      rw [List.idxOf_append, if_neg (fun hm => hs 42 hm rfl)]
      simp
    rw [e1, ePt, vPt, ptOk, hu, c1, c2, hcnt2, hidx, hl, eNum_ok _ h1, eNum_ok _ h2, (it_num _ h1).2, (it_num _ h2).2]
    refine ⟨rfl, ?_, ?_, ?_⟩
    · cases p
      simp_all
    · simp
    · simp only [tokB, Bool.and_eq_true, Bool.not_eq_true', List.isEmpty_eq_false_iff, List.all_eq_true, List.mem_append (s := itB p.x ++ 44 :: itB p.y), List.mem_singleton]
      refine ⟨by simp, fun c hc => ?_⟩
      rcases hc with hc | rfl
      · exact htok c hc
      · decide
theorem rtPts_ok (l : List Pt) (h : ∀ p ∈ l, N9 p.x ∧ N9 p.y) (e : Int) : (l.map ptB).foldl ePt e = e ∧ (l.map ptB).map vPt = l ∧ (l.map ptB).all ptOk = true ∧ ∀ w ∈ l.map ptB, tokB w = true := by
  induction l generalizing e with
  | nil => exact ⟨rfl, rfl, rfl, by simp⟩
  | cons p r ih =>
    obtain ⟨a1, a2, a3, a4⟩ := rtPt_ok p (h p (by simp)) e
    obtain ⟨b1, b2, b3, b4⟩ := ih (fun q hq => h q (by simp [hq])) e
    refine ⟨?_, ?_, ?_, ?_⟩
    · rw [List.map_cons, List.foldl_cons, a1, b1]
    · rw [List.map_cons, List.map_cons, a2, b2]
    · rw [List.map_cons, List.all_cons, b3, a3]
      rfl
    · intro w hw
      rw [List.map_cons, List.mem_cons] at hw
      rcases hw with rfl | hw
      · exact a4
      · exact b4 w hw
end Go.Proofs.YtkijckccfookeaaGreatDoor
