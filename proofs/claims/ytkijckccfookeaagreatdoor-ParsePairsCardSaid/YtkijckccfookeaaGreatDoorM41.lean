/- Plain Lean: the sources of ParsePairs, parsed. -/
import Derived.Test.YtkijckccfookeaaGreatDoorM40
import Derived.Test.YtkijckccfookeaaGreatDoorRTe
namespace Go.Proofs.YtkijckccfookeaaGreatDoor
open Go.RowKit

/-- lines, the last one without an end -/
theorem pcs_flat (L : List (List B)) (h : okL L) (r : B) (n : Nat) : linesFrom n (pcs (L.flatMap lnB ++ r)) = enumW n L ++ linesFrom (n + L.length) (pcs r) := by
  induction L generalizing n with
  | nil => simp [enumW]
  | cons l ls ih =>
    obtain ⟨h1, h2⟩ := h l (by simp)
    cases l with
    | nil => exact absurd rfl h1
    | cons w q =>
      have hno : ∀ c ∈ w ++ moreB q, c ≠ 10 := by
        intro c hc
        rw [List.mem_append] at hc
        rcases hc with hc | hc
        · exact (tokC_nb (tokB_c (h2 w (by simp)) c hc)).2.2
        · exact (more_no q (fun x hx => h2 x (by simp [hx])) c hc).2
      have e : ((w :: q) :: ls).flatMap lnB ++ r = (w ++ moreB q) ++ 10 :: (ls.flatMap lnB ++ r) := by simp [lnB, lineB]
      rw [e, pcs_app _ _ hno, linesFrom, one_line w q h2, ih (fun x hx => h x (by simp [hx])) (n + 1), if_neg (by simp [posL])]
      simp only [enumW, List.cons_append, List.length_cons, List.nil_append]
      rw [show n + 1 + ls.length = n + (ls.length + 1) by omega]
theorem linesT_open (L : List (List B)) (w : B) (ws : List B) (h : okL L) (hw : ∀ x ∈ w :: ws, tokB x = true) : linesT (L.flatMap lnB ++ (w ++ moreB ws)) = enumL 1 (L ++ [w :: ws]) := by
  have hno : ∀ c ∈ w ++ moreB ws, c ≠ 10 := by
    intro c hc
    rw [List.mem_append] at hc
    rcases hc with hc | hc
    · exact (tokC_nb (tokB_c (hw w (by simp)) c hc)).2.2
    · exact (more_no ws (fun x hx => hw x (by simp [hx])) c hc).2
  have hk : okL (L ++ [w :: ws]) := fun l hl => by
    rw [List.mem_append, List.mem_singleton] at hl
    rcases hl with hl | rfl
    · exact h l hl
    · exact ⟨by simp, hw⟩
  have e1 : linesL (L.flatMap lnB ++ (w ++ moreB ws)) = enumW 1 (L ++ [w :: ws]) := by
    have e2 : ∀ (L : List (List B)) n, enumW n (L ++ [w :: ws]) = enumW n L ++ [num (n + L.length) (posL 0 (w :: ws))] := by
      intro L
      induction L with
      | nil => intro n; simp [enumW]
      | cons l ls ih =>
        intro n
        simp only [List.cons_append, enumW, ih, List.length_cons]
        rw [show n + 1 + ls.length = n + (ls.length + 1) by omega]
    rw [linesL, pcs_flat L h, e2, pcs_none _ hno, linesFrom, one_line w ws hw, if_neg (by simp [posL])]
    simp [linesFrom]
  rw [linesT, e1, enumW_T _ 1 hk]
/-- a set is what comes of any order -/
theorem insS_mem (n a : Int) (s : List Int) : a ∈ insS n s ↔ a = n ∨ a ∈ s := by
  induction s with
  | nil => simp [insS]
  | cons x r ih =>
    rw [insS]
    split
    · simp
    · split
      · rename_i h; subst h; simp
      · simp only [List.mem_cons, ih]
        constructor
        · rintro (h | h | h)
          · exact .inr (.inl h)
          · exact .inl h
          · exact .inr (.inr h)
        · rintro (h | h | h)
          · exact .inr (.inl h)
          · exact .inl h
          · exact .inr (.inr h)
theorem setOf_mem (a : Int) (l : List Int) : a ∈ setOf l ↔ a ∈ l := by
  unfold setOf
  induction l with
  | nil => simp
  | cons x r ih => rw [List.foldr_cons, insS_mem, ih, List.mem_cons]
def kName (rev : Bool) : B := if rev then [114, 101, 118, 101, 114, 115, 101] else [115, 105, 110, 103, 108, 101]
def kNum (rev : Bool) : Int := if rev then 5 else 1
def pHead (rev : Bool) : List (List B) := (gGs 16).flatMap (glyL (gGs 16) false) ++ [[sLookup, kName rev]]
def pLine (l r : List B) : List B := sRule :: ([47] :: [91] :: l ++ [93] :: [47] :: [62] :: r)
def s16 (rev : Bool) : PS := ⟨⟨0, gGs 16, [], [⟨kNum rev, false, []⟩], [], [], [], [], []⟩, false, []⟩
theorem p_look (gl : Gl) (rev : Bool) : stmt gl ⟨⟨0, gGs 16, [], [], [], [], [], [], []⟩, false, []⟩ [sLookup, kName rev] = .ok (s16 rev) := by
  rw [st_lookup, rLookup]
  cases rev <;> rfl
theorem p_head {gl : Gl} (hg : GlOk gl (gGs 16)) (rev : Bool) : Runs gl ps0 (pHead rev) (s16 rev) :=
  (runs_gs (by omega) hg).app (.one (by cases rev <;> decide) (p_look gl rev))
theorem names_no (gs : List Glyph) (t : B) (h : ∀ g ∈ gs, g.name ≠ t) (n : Nat) : (namesFrom n gs).lookup t = none := by
  induction gs generalizing n with
  | nil => rfl
  | cons g r ih =>
    have hne : (t == g.name) = false := by simpa using fun e => h g (by simp) e.symm
    rw [namesFrom, List.lookup, hne]
    exact ih (fun x hx => h x (by simp [hx])) _
theorem p_names (rev : Bool) (l : List B) (h : l.head? ≠ some sGlyph) : GlOk (gnames 0 (pHead rev ++ [l])) (gGs 16) ∧ (gnames 0 (pHead rev ++ [l])).lookup (gN 16) = none := by
  have hno : noG ([[sLookup, kName rev]] ++ [l]) := noG_app (noG_tail _ (by simp)) (noG_tail _ (by simpa using h))
  unfold pHead
  rw [List.append_assoc]
  refine ⟨gs_names (by omega) _ hno, ?_⟩
  rw [gnames_glyphs _ _ _ (fun g hg => (gGs_ok 16 (by omega) g hg).name) _ hno 0]
  refine names_no _ _ (fun g hg => ?_) 0
  unfold gGs at hg
  rw [List.mem_map] at hg
  obtain ⟨i, hi, rfl⟩ := hg
  rw [List.mem_range] at hi
  intro e
  have := gN_inj e
  omega
theorem p_cut (l r : List B) (hl : ∀ w ∈ l, w ≠ [47] ∧ w ≠ [62]) (hr : ∀ w ∈ r, w ≠ [47] ∧ w ≠ [62]) : partsT ([47] :: [91] :: l ++ [93] :: [47] :: [62] :: r) = some [[], [91] :: l ++ [[93]], [], r] := by
  have := parts_ok [] ([91] :: l ++ [[93]]) [] r (by simp) (fun w hw => by
    simp only [List.cons_append, List.mem_cons, List.mem_append, List.not_mem_nil, or_false] at hw
    rcases hw with rfl | hw | rfl
    · decide
    · exact hl w hw
    · decide) (by simp) hr
  simpa using this
/-- one rule of pairs -/
theorem p_rule {gl : Gl} (rev : Bool) (l r : List B) (ns : List Int) (hl : ∀ w ∈ l, (w ≠ [47] ∧ w ≠ [62]) ∧ (w ≠ [91] ∧ w ≠ [93])) (hr : ∀ w ∈ r, w ≠ [47] ∧ w ≠ [62]) (hs : setGo gl [] [] l = .ok ns) :
    stmt gl (s16 rev) (pLine l r) = if eGls gl 0 r ≠ 0 then .error (eGls gl 0 r) else match sortOut ns (r.map (vGl gl)) with
      | .error e => .error e
      | .ok o => .ok ⟨⟨0, gGs 16, [], [⟨kNum rev, false, [⟨[], [setOf ns], [], o, [], 0⟩]⟩], [], [], [], [], []⟩, false, []⟩ := by
  have hp := p_cut l r (fun w hw => (hl w hw).1) hr
  have h1 : setsT ([91] :: l ++ [[93]]) = some [l] := setsT_br l fun w hw => (hl w hw).2
  have h0 : setsT [] = some [] := by decide
  have hlk : (s16 rev).f.lookups.getLast? = some ⟨kNum rev, false, []⟩ := rfl
  have hk : kNum rev = 1 ∨ kNum rev = 5 := by cases rev <;> simp [kNum]
  have hc : (s16 rev).cls = [] := rfl
  have hr1 : rowsGo gl [] [l] = .ok [ns] := by rw [rowsGo, hs]; rfl
  have hr0 : rowsGo gl [] [] = .ok [] := rfl
  have ho : areOut (kNum rev) r = true := by cases rev <;> rfl
  have hpl : (kNum rev = 1 ∨ kNum rev = 2 ∨ kNum rev = 3 ∨ kNum rev = 5) := by cases rev <;> simp [kNum]
  have h4 : ¬ kNum rev = 4 := by cases rev <;> simp [kNum]
  have h6 : ¬ kNum rev = 6 := by cases rev <;> simp [kNum]
  rw [pLine, st_rule, rRule, hlk]
  simp only [hp, h0, h1, hc, hr1, hr0, ho, hpl, hk, h4, h6, if_true, if_false, List.length_cons, List.length_nil, List.map_cons, List.map_nil, List.headD_cons, Bool.true_eq_false]
  simp only [true_and, ne_eq, Nat.zero_add, not_true_eq_false, if_false]
  split
  · rfl
  · cases sortOut ns (r.map (vGl gl)) with
    | error e => rfl
    | ok o => simp [onLastL, s16]
theorem in16 {n : Int} (h : In 8 n) : In 16 n := by obtain ⟨a, b⟩ := h; exact ⟨a, by omega⟩
theorem in16' {n : Int} (h : In 8 n) : In 16 (15 - n) := by obtain ⟨a, b⟩ := h; exact ⟨by omega, by omega⟩
theorem gN_in16 {n : Int} (h : In 16 n) : ∃ i : Nat, i ≤ 999 ∧ n = i := ⟨n.toNat, by obtain ⟨a, b⟩ := h; omega, by obtain ⟨a, b⟩ := h; omega⟩
theorem pw {l : List Int} (h : ∀ n ∈ l, In 16 n) : (∀ w ∈ l.map gN, (w ≠ [47] ∧ w ≠ [62]) ∧ (w ≠ [91] ∧ w ≠ [93])) ∧ ∀ w ∈ l.map gN, tokB w = true := by
  constructor <;> intro w hw <;> rw [List.mem_map] at hw <;> obtain ⟨n, hn, rfl⟩ := hw <;> obtain ⟨i, hi, rfl⟩ := gN_in16 (h n hn)
  · have := name_br (gN_name i hi)
    exact ⟨⟨this.2.2.1, this.2.2.2⟩, this.1, this.2.1⟩
  · exact name_tok (gN_name i hi)
theorem p_src (rev : Bool) (l r : List B) (hl : ∀ w ∈ l, tokB w = true) (hr : ∀ w ∈ r, tokB w = true) (b : Ans) (h : ∀ gl, GlOk gl (gGs 16) → gl.lookup (gN 16) = none → stmt gl (s16 rev) (pLine l r) = b) :
    parseL ((pHead rev).flatMap lnB ++ (sRule ++ moreB ([47] :: [91] :: l ++ [93] :: [47] :: [62] :: r))) = (match b with | .ok s => .ok s.f | .error e => .error (18, e)) := by
  have hw : ∀ x ∈ pLine l r, tokB x = true := fun x hx => by
    simp only [pLine, List.cons_append, List.mem_cons, List.mem_append, List.not_mem_nil, or_false] at hx
    rcases hx with rfl | rfl | rfl | hx | rfl | rfl | rfl | hx
    · decide
    · decide
    · decide
    · exact hl x hx
    · decide
    · decide
    · decide
    · exact hr x hx
  obtain ⟨hg, hg16⟩ := p_names rev (pLine l r) (by simp [pLine])
  have hh := p_head hg rev
  have h1 := h _ hg hg16
  have e : linesT ((pHead rev).flatMap lnB ++ (sRule ++ moreB ([47] :: [91] :: l ++ [93] :: [47] :: [62] :: r))) = enumL 1 (pHead rev ++ [pLine l r]) := linesT_open _ _ _ hh.1 hw
  have hlen : (pHead rev).length = 17 := by rw [pHead, List.length_append, gs_len]; rfl
  rw [parseL, e, enumL_snd, enumL_app, stmts_app, hh.2 1]
  simp only [enumL, stmts, h1, hlen]
  cases b with
  | error e => rfl
  | ok s => rfl
theorem p_go {gl : Gl} (hg : GlOk gl (gGs 16)) (l : List Int) (h : ∀ n ∈ l, In 16 n) (hl : l.length ≤ 1000) : setGo gl [] [] (l.map gN) = .ok l := by
  rw [gs_map l h, setGo_names hg _ l (fun n hn => by rw [gGs_len]; exact h n hn) [] (by simp; omega)]
  simp
theorem p_gls {gl : Gl} (hg : GlOk gl (gGs 16)) (l : List Int) (h : ∀ n ∈ l, In 16 n) (e : Int) : eGls gl e (l.map gN) = e ∧ (l.map gN).map (vGl gl) = l := by
  rw [gs_map l h]
  exact eGls_ok hg l (fun n hn => by rw [gGs_len]; exact h n hn) e
section
variable (rev : Bool) (ns : List Int) (h8 : ∀ n ∈ ns, In 8 n) (hnd : ns.Nodup) (hlen : ns.length ≤ 8)
def psrc (rev : Bool) (l r : List Int) (more : List B) : B := (pHead rev).flatMap lnB ++ (sRule ++ moreB ([47] :: [91] :: l.map gN ++ [93] :: [47] :: [62] :: (r.map gN ++ more)))
set_option maxHeartbeats 1000000 in
include h8 hnd hlen in
theorem pair_right : parseL (psrc rev ns (ns.map (15 - ·)) []) = .ok ⟨0, gGs 16, [], [⟨kNum rev, false, [⟨[], [setOf ns], [], (setOf ns).map (15 - ·), [], 0⟩]⟩], [], [], [], [], []⟩ := by
  have h1 : ∀ n ∈ ns, In 16 n := fun n hn => in16 (h8 n hn)
  have h2 : ∀ n ∈ ns.map (15 - ·), In 16 n := fun n hn => by rw [List.mem_map] at hn; obtain ⟨m, hm, rfl⟩ := hn; exact in16' (h8 m hm)
  have hso : sortOut ns (ns.map (15 - ·)) = .ok ((setOf ns).map (15 - ·)) := by
    rw [sortOut, if_neg (by simpa using hnd), if_neg (by simp)]
    congr 1
    refine List.map_congr_left fun g hg => ?_
    rw [setOf_mem] at hg
    have hi := List.idxOf_lt_length_of_mem hg
    rw [List.getD_eq_getElem?_getD, List.getElem?_map, List.getElem?_eq_getElem hi]
    simp
  refine p_src rev (ns.map gN) ((ns.map (15 - ·)).map gN ++ []) (pw h1).2 (fun w hw => (pw h2).2 w (by simpa using hw)) (.ok ⟨⟨0, gGs 16, [], [⟨kNum rev, false, [⟨[], [setOf ns], [], (setOf ns).map (15 - ·), [], 0⟩]⟩], [], [], [], [], []⟩, false, []⟩) fun gl hg hg16 => ?_
  rw [List.append_nil, p_rule rev _ _ ns (fun w hw => (pw h1).1 w hw) (fun w hw => ((pw h2).1 w hw).1) (p_go hg ns h1 (by omega))]
  rw [(p_gls hg _ h2 0).1, (p_gls hg _ h2 0).2, hso]
  rfl
set_option maxHeartbeats 1000000 in
include h8 hlen in
theorem pair_twice (a : Int) (ha : a ∈ ns) : parseL (psrc rev (ns ++ [a]) (ns.map (15 - ·) ++ [0]) []) = .error (18, 24) := by
  have h1 : ∀ n ∈ ns ++ [a], In 16 n := fun n hn => by
    rw [List.mem_append, List.mem_singleton] at hn
    rcases hn with hn | rfl
    · exact in16 (h8 n hn)
    · exact in16 (h8 _ ha)
  have h2 : ∀ n ∈ ns.map (15 - ·) ++ [0], In 16 n := fun n hn => by
    rw [List.mem_append, List.mem_singleton, List.mem_map] at hn
    rcases hn with ⟨m, hm, rfl⟩ | rfl
    · exact in16' (h8 m hm)
    · exact ⟨by omega, by omega⟩
  have hso : ∀ o, sortOut (ns ++ [a]) o = .error 24 := fun o => by
    rw [sortOut, if_pos]
    rw [List.nodup_append]
    rintro ⟨-, -, h⟩
    exact h a ha a (by simp) rfl
  have hst : ∀ gl, GlOk gl (gGs 16) → gl.lookup (gN 16) = none → stmt gl (s16 rev) (pLine ((ns ++ [a]).map gN) ((ns.map (15 - ·) ++ [0]).map gN ++ [])) = .error 24 := fun gl hg hg16 => by
    rw [List.append_nil, p_rule rev _ _ (ns ++ [a]) (fun w hw => (pw h1).1 w hw) (fun w hw => ((pw h2).1 w hw).1) (p_go hg _ h1 (by rw [List.length_append]; simp; omega))]
    rw [(p_gls hg _ h2 0).1, hso, if_neg (by simp)]
  have key := p_src rev ((ns ++ [a]).map gN) ((ns.map (15 - ·) ++ [0]).map gN ++ []) (pw h1).2 (fun w hw => (pw h2).2 w (by simpa using hw)) (.error 24) hst
  unfold psrc
  exact key
include h8 hnd hlen in
theorem pair_more : parseL (psrc rev ns (ns.map (15 - ·) ++ [1]) []) = .error (18, 22) := by
  have h1 : ∀ n ∈ ns, In 16 n := fun n hn => in16 (h8 n hn)
  have h2 : ∀ n ∈ ns.map (15 - ·) ++ [1], In 16 n := fun n hn => by
    rw [List.mem_append, List.mem_singleton, List.mem_map] at hn
    rcases hn with ⟨m, hm, rfl⟩ | rfl
    · exact in16' (h8 m hm)
    · exact ⟨by omega, by omega⟩
  have hso : sortOut ns (ns.map (15 - ·) ++ [1]) = .error 22 := by
    rw [sortOut, if_neg (by simpa using hnd), if_pos (by simp)]
  have hst : ∀ gl, GlOk gl (gGs 16) → gl.lookup (gN 16) = none → stmt gl (s16 rev) (pLine (ns.map gN) ((ns.map (15 - ·) ++ [1]).map gN ++ [])) = .error 22 := fun gl hg hg16 => by
    rw [List.append_nil, p_rule rev _ _ ns (fun w hw => (pw h1).1 w hw) (fun w hw => ((pw h2).1 w hw).1) (p_go hg ns h1 (by omega))]
    rw [(p_gls hg _ h2 0).1, (p_gls hg _ h2 0).2, hso]
    rfl
  have key := p_src rev (ns.map gN) ((ns.map (15 - ·) ++ [1]).map gN ++ []) (pw h1).2 (fun w hw => (pw h2).2 w (by simpa using hw)) (.error 22) hst
  unfold psrc
  exact key
set_option maxHeartbeats 1000000 in
include h8 hlen in
theorem pair_name : parseL (psrc rev ns (ns.map (15 - ·)) [gN 16]) = .error (18, 23) := by
  have h1 : ∀ n ∈ ns, In 16 n := fun n hn => in16 (h8 n hn)
  have h2 : ∀ n ∈ ns.map (15 - ·), In 16 n := fun n hn => by rw [List.mem_map] at hn; obtain ⟨m, hm, rfl⟩ := hn; exact in16' (h8 m hm)
  have h16 := name_br (gN_name 16 (by omega))
  have hr : ∀ w ∈ (ns.map (15 - ·)).map gN ++ [gN 16], (w ≠ [47] ∧ w ≠ [62]) ∧ tokB w = true := fun w hw => by
    rw [List.mem_append, List.mem_singleton] at hw
    rcases hw with hw | rfl
    · exact ⟨((pw h2).1 w hw).1, (pw h2).2 w hw⟩
    · exact ⟨⟨h16.2.2.1, h16.2.2.2⟩, name_tok (gN_name 16 (by omega))⟩
  refine p_src rev (ns.map gN) ((ns.map (15 - ·)).map gN ++ [gN 16]) (pw h1).2 (fun w hw => (hr w hw).2) (.error 23) fun gl hg hg16 => ?_
  have he : eGls gl 0 ((ns.map (15 - ·)).map gN ++ [gN 16]) = 23 := by
    have := (p_gls hg _ h2 0).1
    unfold eGls at this ⊢
    rw [List.foldl_append, this]
    simp [eGl, hg16]
  rw [p_rule rev _ _ ns (fun w hw => (pw h1).1 w hw) (fun w hw => (hr w hw).1) (p_go hg ns h1 (by omega)), he, if_pos (by simp)]
end
end Go.Proofs.YtkijckccfookeaaGreatDoor
/- Plain Lean: a small font's sources are short. -/
namespace Go.Proofs.YtkijckccfookeaaGreatDoor
open Go.RowKit

theorem flat_le {α β : Type} (l : List α) (f : α → List β) (k n : Nat) (h : ∀ x ∈ l, (f x).length ≤ k) (hl : l.length ≤ n) : (l.flatMap f).length ≤ n * k := by
  have : (l.flatMap f).length ≤ l.length * k := by
    clear hl
    induction l with
    | nil => simp
    | cons a r ih =>
      rw [List.flatMap_cons, List.length_append, List.length_cons, Nat.add_mul]
      have := h a (by simp)
      have := ih (fun x hx => h x (by simp [hx]))
      omega
  exact Nat.le_trans this (Nat.mul_le_mul_right k hl)
theorem it_len (n : Int) (h : N9 n) : (itB n).length ≤ 10 := by
  unfold N9 at h
  unfold itB Lib.itoa
  split
  · have := (dec_len n.natAbs (by omega)).2
    rw [List.length_cons]
    omega
  · have := (dec_len n.toNat (by omega)).2
    omega
theorem name_len {s : B} (h : nameB s = true) : s.length ≤ 16 := by
  rw [nameB, Bool.and_eq_true, decide_eq_true_iff] at h
  exact h.1.2
/-- short words -/
def W32 (l : List B) : Prop := ∀ w ∈ l, w.length ≤ 32
theorem W32.nil : W32 [] := fun w h => by simp at h
theorem W32.cons {w : B} {l : List B} (h : w.length ≤ 32) (k : W32 l) : W32 (w :: l) := fun x hx => by
  rw [List.mem_cons] at hx
  rcases hx with rfl | hx
  · exact h
  · exact k x hx
theorem W32.app {a b : List B} (h : W32 a) (k : W32 b) : W32 (a ++ b) := fun x hx => by
  rw [List.mem_append] at hx
  rcases hx with hx | hx
  · exact h x hx
  · exact k x hx
theorem W32.map {α : Type} {l : List α} {f : α → B} (h : ∀ x ∈ l, (f x).length ≤ 32) : W32 (l.map f) := fun w hw => by
  rw [List.mem_map] at hw
  obtain ⟨x, hx, rfl⟩ := hw
  exact h x hx
theorem W32.flat {α : Type} {l : List α} {f : α → List B} (h : ∀ x ∈ l, W32 (f x)) : W32 (l.flatMap f) := fun w hw => by
  rw [List.mem_flatMap] at hw
  obtain ⟨x, hx, hw⟩ := hw
  exact h x hx w hw
theorem W32.it {l : List Int} (h : ∀ n ∈ l, N9 n) : W32 (l.map itB) := W32.map fun n hn => Nat.le_trans (it_len n (h n hn)) (by decide)
theorem more_len (l : List B) (h : W32 l) : (moreB l).length ≤ 33 * l.length := by
  have : (moreB l).length ≤ l.length * 33 := flat_le l _ 33 l.length (fun w hw => by rw [List.length_cons]; have := h w hw; omega) (Nat.le_refl _)
  omega
/-- lines of at most k bytes in all -/
def Lk (L : List (List B)) (k : Nat) : Prop := (L.flatMap lnB).length ≤ k
theorem Lk.line {l : List B} {n : Nat} (h : W32 l) (hl : l.length ≤ n) : Lk [l] (33 * n + 1) := by
  unfold Lk
  cases l with
  | nil => simp [lnB]
  | cons w r =>
    simp only [List.flatMap_cons, List.flatMap_nil, List.append_nil, lnB, lineB, List.length_append, List.length_cons, List.length_nil]
    have h1 := h w (by simp)
    have h2 := more_len r (fun x hx => h x (by simp [hx]))
    rw [List.length_cons] at hl
    omega
theorem Lk.mono {L : List (List B)} {k n : Nat} (h : Lk L k) (hk : k ≤ n) : Lk L n := Nat.le_trans h hk
theorem Lk.nil (k : Nat) : Lk [] k := Nat.zero_le _
theorem Lk.app {a b : List (List B)} {k n : Nat} (h : Lk a k) (g : Lk b n) : Lk (a ++ b) (k + n) := by
  unfold Lk at *
  rw [List.flatMap_append, List.length_append]
  omega
theorem Lk.cons {l : List B} {b : List (List B)} {k n : Nat} (h : Lk [l] k) (g : Lk b n) : Lk (l :: b) (k + n) := h.app g
theorem Lk.map {α : Type} {l : List α} {f : α → List B} {k n : Nat} (h : ∀ x ∈ l, Lk [f x] k) (hl : l.length ≤ n) : Lk (l.map f) (n * k) := by
  unfold Lk at *
  rw [flat_map]
  exact flat_le l _ k n (fun x hx => by have := h x hx; simpa using this) hl
theorem Lk.flat {α : Type} {l : List α} {f : α → List (List B)} {k n : Nat} (h : ∀ x ∈ l, Lk (f x) k) (hl : l.length ≤ n) : Lk (l.flatMap f) (n * k) := by
  unfold Lk at *
  rw [List.flatMap_assoc]
  exact flat_le l _ k n h hl

structure SmR (r : Rule) : Prop where
  rows : r.back.length ≤ 3 ∧ r.in'.length ≤ 3 ∧ r.ahead.length ≤ 3
  sets : (∀ s ∈ r.back, s.length ≤ 4) ∧ (∀ s ∈ r.in', s.length ≤ 4) ∧ ∀ s ∈ r.ahead, s.length ≤ 4
  outs : r.out.length ≤ 4 ∧ r.calls.length ≤ 2
structure SmG (g : Glyph) : Prop where
  pts : g.points.length ≤ 12
  ends : g.ends.length ≤ 2
  parts : g.parts.length ≤ 1
  anch : g.anchors.length ≤ 5
  dels : g.deltas.length ≤ 40
  hint : g.hint.length ≤ 60
structure SmF (f : Fnt) : Prop where
  glyphs : f.glyphs.length ≤ 10 ∧ ∀ g ∈ f.glyphs, SmG g
  chars : f.chars.length ≤ 16
  lookups : f.lookups.length ≤ 6 ∧ ∀ l ∈ f.lookups, l.rules.length ≤ 3 ∧ ∀ r ∈ l.rules, SmR r
  feats : f.features.length ≤ 8 ∧ ∀ x ∈ f.features, x.lookups.length ≤ 6
  axes : f.axes.length ≤ 2
  regs : f.regions.length ≤ 3 ∧ ∀ r ∈ f.regions, r.tents.length ≤ 2
  funcs : f.funcs.length ≤ 2 ∧ ∀ p ∈ f.funcs, p.length ≤ 60
  cvt : f.cvt.length ≤ 3

theorem op_len : ∀ s ∈ opNames, s.length ≤ 8 := by decide
theorem kind_len : ∀ s ∈ kindNames, s.length ≤ 9 := by decide
theorem anch_lenS : ∀ s ∈ anchorNames, s.length ≤ 9 := by decide
theorem pick_len (l : List B) (k : Nat) (h : ∀ s ∈ l, s.length ≤ k) (hk : 1 ≤ k) (n : Int) : (pick l n).length ≤ k := by
  unfold pick
  split
  · exact hk
  · cases e : l[(n - 1).toNat]? with
    | none => exact hk
    | some s => exact h s (List.mem_of_getElem? e)
theorem gn_len {gs : List Glyph} (h : ∀ g ∈ gs, nameB g.name = true) {n : Int} (hn : In gs.length n) : (gnB gs n).length ≤ 32 := by
  obtain ⟨h1, h2⟩ := hn
  have e : gs[n.toNat]? = some (gs[n.toNat]'(by omega)) := List.getElem?_eq_getElem (by omega)
  unfold gnB
  rw [if_neg (by omega), e]
  exact Nat.le_trans (name_len (h _ (List.getElem_mem _))) (by decide)
theorem ins_len {i : Ins} (h : N9 i.a) : (insB i).length ≤ 32 := by
  have h1 := pick_len opNames 8 op_len (by decide) i.op
  have h2 := it_len i.a h
  unfold insB opB
  rw [List.length_append]
  split
  · simp only [List.length_nil]; omega
  · rw [List.length_cons]; omega
theorem pt_len {p : Pt} (h : N9 p.x ∧ N9 p.y) : (ptB p).length ≤ 32 := by
  have h1 := it_len p.x h.1
  have h2 := it_len p.y h.2
  unfold ptB
  simp only [List.length_append, List.length_cons]
  split
  · simp only [List.length_nil]; omega
  · simp only [List.length_cons, List.length_nil]; omega
theorem call_len {c : Call} (h : N9 c.at' ∧ N9 c.lookup) : (itB c.at' ++ 58 :: itB c.lookup).length ≤ 32 := by
  have h1 := it_len c.at' h.1
  have h2 := it_len c.lookup h.2
  simp only [List.length_append, List.length_cons]
  omega
theorem n32 {n : Int} (h : N9 n) : (itB n).length ≤ 32 := Nat.le_trans (it_len n h) (by decide)
theorem code32 {p : List Ins} (h : OkC p) : W32 (p.map insB) := W32.map fun i hi => ins_len (h i hi).2.2
theorem lk_code {p : List Ins} (h : OkC p) (hl : p.length ≤ 60) {a : B} (ha : a.length ≤ 32) : Lk [a :: p.map insB] 2014 := Lk.line (n := 61) (.cons ha (code32 h)) (by rw [List.length_cons, List.length_map]; omega)
theorem conts_len (pts : List Pt) (es : List Int) : ∀ fr, (contsFrom pts fr es).length ≤ es.length ∧ ∀ c ∈ contsFrom pts fr es, c.length ≤ pts.length ∧ ∀ p ∈ c, p ∈ pts := by
  induction es with
  | nil => intro fr; simp [contsFrom]
  | cons e es ih =>
    intro fr
    rw [contsFrom]
    split
    · simp
    · obtain ⟨h1, h2⟩ := ih (e.toNat + 1)
      refine ⟨by simp only [List.length_cons]; omega, fun c hc => ?_⟩
      rw [List.mem_cons] at hc
      rcases hc with rfl | hc
      · refine ⟨?_, fun p hp => List.mem_of_mem_take (List.mem_of_mem_drop hp)⟩
        rw [List.length_drop, List.length_take]
        omega
      · exact h2 c hc
theorem lk_glyph {gs : List Glyph} (hn : ∀ g ∈ gs, nameB g.name = true) (all : Bool) {g : Glyph} (h : OkG gs.length g) (hs : SmG g) : Lk (glyL gs all g) 10610 := by
  unfold glyL
  have e : 10610 = 133 + (2 * 430 + (1 * 133 + (5 * 166 + (40 * 166 + 2014)))) := rfl
  rw [e]
  obtain ⟨c1, c2⟩ := conts_len g.points g.ends 0
  refine .cons (Lk.line (n := 4) (.cons (by decide) (.cons (Nat.le_trans (name_len h.name) (by decide)) (.cons (n32 h.adv) ?_))) ?_) (.app (.map (fun c hc => ?_) (Nat.le_trans c1 hs.ends)) (.app (.map (fun p hp => ?_) hs.parts) (.app (.map (fun a ha => ?_) hs.anch) (.app (.map (fun d hd => ?_) hs.dels) ?_))))
  · split
    · exact .cons (by decide) .nil
    · exact .nil
  · unfold gyL
    simp only [List.length_cons]
    split <;> simp
  · obtain ⟨d1, d2⟩ := c2 c hc
    exact Lk.line (n := 13) (.cons (by decide) (.map fun p hp => pt_len (h.pts p (d2 p hp)))) (by unfold coL; rw [List.length_cons, List.length_map]; have := hs.pts; omega)
  · have := h.parts p hp
    exact Lk.line (n := 4) (.cons (by decide) (.cons (gn_len hn this.1) (.cons (n32 this.2.1) (.cons (n32 this.2.2) .nil)))) (by simp [paL])
  · have := h.anch a ha
    exact Lk.line (n := 5) (.cons (by decide) (.cons (Nat.le_trans (pick_len _ 9 anch_lenS (by decide) _) (by decide)) (.cons (n32 this.2.2.1) (.cons (n32 this.2.2.2.1) (.cons (n32 this.2.2.2.2) .nil))))) (by simp [anL])
  · have := h.dels d hd
    exact Lk.line (n := 5) (.cons (by decide) (.cons (n32 this.1) (.cons (n32 this.2.1) (.cons (n32 this.2.2.1) (.cons (n32 this.2.2.2) .nil))))) (by simp [deL])
  · split
    · exact lk_code h.hint hs.hint (by decide)
    · exact .nil _
/-- words of sets -/
theorem sets32 {gs : List Glyph} (hn : ∀ g ∈ gs, nameB g.name = true) {ws : List (List Int) → List B} (hw : ∀ l, (∀ s ∈ l, ∀ n ∈ s, In gs.length n) → (∀ s ∈ l, s.length ≤ 4) → l.length ≤ 3 → W32 (ws l) ∧ (ws l).length ≤ 18) {kind : Int} {r : Rule} (h : OkR gs.length kind r) (hs : SmR r) :
    Lk [sRule :: (ws r.back ++ [47] :: ws r.in' ++ [47] :: ws r.ahead ++ [62] :: outW gs kind r)] 2047 := by
  obtain ⟨a1, a2⟩ := hw r.back (fun s hs => (h.back s hs).2) hs.sets.1 hs.rows.1
  obtain ⟨b1, b2⟩ := hw r.in' (fun s hs => (h.in' s hs).2) hs.sets.2.1 hs.rows.2.1
  obtain ⟨c1, c2⟩ := hw r.ahead (fun s hs => (h.ahead s hs).2) hs.sets.2.2 hs.rows.2.2
  have ho : W32 (outW gs kind r) ∧ (outW gs kind r).length ≤ 4 := by
    unfold outW
    split
    · exact ⟨.map fun n hn' => gn_len hn (h.out n hn'), by rw [List.length_map]; exact hs.outs.1⟩
    · split
      · exact ⟨.map fun c hc => call_len (h.calls c hc), by rw [List.length_map]; have := hs.outs.2; omega⟩
      · split
        · exact ⟨.cons (n32 h.x) .nil, by simp⟩
        · exact ⟨.nil, by simp⟩
  refine Lk.line (n := 62) (.cons (by decide) ((((a1.app (.cons (by decide) b1)).app (.cons (by decide) c1))).app (.cons (by decide) ho.1))) ?_
  simp only [List.length_cons, List.length_append]
  omega
theorem lk_lookup {gs : List Glyph} (hn : ∀ g ∈ gs, nameB g.name = true) {ws : List (List Int) → List B} (hw : ∀ l, (∀ s ∈ l, ∀ n ∈ s, In gs.length n) → (∀ s ∈ l, s.length ≤ 4) → l.length ≤ 3 → W32 (ws l) ∧ (ws l).length ≤ 18) {l : Lookup}
    (h : ∀ r ∈ l.rules, OkR gs.length l.kind r) (hs : l.rules.length ≤ 3 ∧ ∀ r ∈ l.rules, SmR r) : Lk (luL gs ws l) 6241 := by
  unfold luL
  have e : 6241 = 100 + 3 * 2047 := rfl
  rw [e]
  refine .cons (Lk.line (n := 3) (.cons (by decide) (.cons (Nat.le_trans (pick_len _ 9 kind_len (by decide) _) (by decide)) ?_)) ?_) (.map (fun r hr => sets32 hn hw (h r hr) (hs.2 r hr)) hs.1)
  · split
    · exact .cons (by decide) .nil
    · exact .nil
  · unfold lkL
    simp only [List.length_cons]
    split <;> simp
theorem setsV32 {gs : List Glyph} (hn : ∀ g ∈ gs, nameB g.name = true) (l : List (List Int)) (h : ∀ s ∈ l, ∀ n ∈ s, In gs.length n) (h4 : ∀ s ∈ l, s.length ≤ 4) (h3 : l.length ≤ 3) : W32 (setsV gs l) ∧ (setsV gs l).length ≤ 18 := by
  unfold setsV
  refine ⟨.flat fun s hs => ?_, flat_le l _ 6 3 (fun s hs => ?_) h3⟩
  · exact (W32.cons (by decide) (.map fun n hn' => gn_len hn (h s hs n hn'))).app (.cons (by decide) .nil)
  · have := h4 s hs
    simp only [List.cons_append, List.length_cons, List.length_append, List.length_map, List.length_nil]
    omega
theorem setsW32 {gs : List Glyph} (hn : ∀ g ∈ gs, nameB g.name = true) (l : List (List Int)) (h : ∀ s ∈ l, ∀ n ∈ s, In gs.length n) (h4 : ∀ s ∈ l, s.length ≤ 4) (h3 : l.length ≤ 3) : W32 (setsW gs l) ∧ (setsW gs l).length ≤ 18 := by
  unfold setsW
  refine ⟨.flat fun s hs => ?_, flat_le l _ 6 3 (fun s hs => ?_) h3⟩
  · unfold setW
    split
    · exact .cons (gn_len hn (h _ hs _ (by simp))) .nil
    · exact (W32.cons (by decide) (.map fun n hn' => gn_len hn (h s hs n hn'))).app (.cons (by decide) .nil)
  · have := h4 s hs
    unfold setW
    split
    · simp
    · simp only [List.cons_append, List.length_cons, List.length_append, List.length_map, List.length_nil]
      omega
section
variable {f : Fnt} (h : RightF f) (hs : SmF f)
include h in
theorem small_names : ∀ g ∈ f.glyphs, nameB g.name = true := fun g hg => (h.glyphs g hg).name
include h hs in
theorem lk_axes : Lk (f.axes.map axL) 332 := .mono (.map (k := 166) (n := 2) (fun a ha => by
  have := h.axes a ha
  exact Lk.line (n := 5) (.cons (by decide) (.cons (Nat.le_trans (name_len this.1) (by decide)) (.cons (n32 this.2.1) (.cons (n32 this.2.2.1) (.cons (n32 this.2.2.2) .nil))))) (by simp [axL])) hs.axes) (by decide)
include h hs in
theorem lk_regs : Lk (f.regions.map rgL) 696 := .mono (.map (k := 232) (n := 3) (fun r hr => by
  have := h.regs r hr
  refine Lk.line (n := 7) (.cons (by decide) (.flat fun t ht => .cons (n32 (this t ht).1) (.cons (n32 (this t ht).2.1) (.cons (n32 (this t ht).2.2) .nil)))) ?_
  have := flat_le r.tents tentW 3 2 (fun t _ => by simp [tentW]) (hs.regs.2 r hr)
  unfold rgL
  rw [List.length_cons]
  omega) hs.regs.1) (by decide)
include h hs in
theorem lk_funcs : Lk (f.funcs.map fnL) 4028 := .mono (.map (k := 2014) (n := 2) (fun p hp => lk_code (h.funcs p hp) (hs.funcs.2 p hp) (by decide)) hs.funcs.1) (by decide)
include h hs in
theorem lk_glyphs (all : Bool) : Lk (f.glyphs.flatMap (glyL f.glyphs all)) 106100 := .mono (.flat (k := 10610) (n := 10) (fun g hg => lk_glyph (small_names h) all (h.glyphs g hg) (hs.glyphs.2 g hg)) hs.glyphs.1) (by decide)
include h hs in
theorem lk_chars : Lk (f.chars.map (chL f.glyphs)) 1600 := .mono (.map (k := 100) (n := 16) (fun c hc => Lk.line (n := 3) (.cons (by decide) (.cons (n32 (h.chars c hc).1) (.cons (gn_len (small_names h) (h.chars c hc).2) .nil))) (by simp [chL])) hs.chars) (by decide)
include h hs in
theorem lk_feats : Lk (f.features.map ftL) 2120 := .mono (.map (k := 265) (n := 8) (fun x hx => Lk.line (n := 8) (.cons (by decide) (.cons (Nat.le_trans (name_len (h.feats x hx).1) (by decide)) (.it (h.feats x hx).2))) (by
  have := hs.feats.2 x hx
  simp only [ftL, List.length_cons, List.length_map]
  omega)) hs.feats.1) (by decide)
include h in
theorem lk_unit : Lk [[sUnit, itB f.unit]] 67 := Lk.line (n := 2) (.cons (by decide) (.cons (n32 h.unit) .nil)) (by simp)
include h hs in
theorem source_len : (sourceB f).length ≤ 160000 := by
  have key : Lk (sourceL f) 160000 := by
    unfold sourceL
    have hl : Lk (f.lookups.flatMap (luL f.glyphs (setsV f.glyphs))) 37446 := .mono (.flat (k := 6241) (n := 6) (fun l hl => lk_lookup (small_names h) (setsV32 (small_names h)) (h.lookups l hl).2.2 (hs.lookups.2 l hl)) hs.lookups.1) (by decide)
    have hc : Lk (f.cvt.map (fun n => [sCvt, itB n])) 201 := .mono (.map (k := 67) (n := 3) (fun n hn => Lk.line (n := 2) (.cons (by decide) (.cons (n32 (h.cvt n hn)) .nil)) (by simp)) hs.cvt) (by decide)
    exact .mono ((lk_unit h).app ((lk_axes h hs).app ((lk_regs h hs).app (hc.app ((lk_funcs h hs).app (hl.app ((lk_glyphs h hs true).app ((lk_chars h hs).app (lk_feats h hs))))))))) (by decide)
  exact key
include h hs in
theorem font_len : (fontB f).length ≤ 160000 := by
  have key : Lk (fontL f) 160000 := by
    unfold fontL
    have hl : Lk (f.lookups.flatMap (luL f.glyphs (setsW f.glyphs))) 37446 := .mono (.flat (k := 6241) (n := 6) (fun l hl => lk_lookup (small_names h) (setsW32 (small_names h)) (h.lookups l hl).2.2 (hs.lookups.2 l hl)) hs.lookups.1) (by decide)
    have hc : Lk (if f.cvt.isEmpty then [] else [sCvt :: f.cvt.map itB]) 133 := by
      split
      · exact .nil _
      · exact Lk.line (n := 4) (.cons (by decide) (.it h.cvt)) (by have := hs.cvt; simp only [List.length_cons, List.length_map]; omega)
    exact .mono ((lk_unit h).app ((lk_axes h hs).app ((lk_regs h hs).app (hc.app ((lk_funcs h hs).app ((lk_glyphs h hs false).app ((lk_chars h hs).app (hl.app (lk_feats h hs))))))))) (by decide)
  rw [← font_lines]
  exact key
end
end Go.Proofs.YtkijckccfookeaaGreatDoor
