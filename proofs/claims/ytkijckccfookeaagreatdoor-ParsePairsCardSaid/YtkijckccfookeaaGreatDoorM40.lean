/- Plain Lean: a font as a text (the reference's print): fonts of one text are one. -/
import Derived.Test.YtkijckccfookeaaGreatDoorM09
import Derived.Test.YtkijckccfookeaaGreatDoorRTe
namespace Go.Proofs.YtkijckccfookeaaGreatDoor
open Go.RowKit

def digB (n : Int) : B := itB n ++ [32]
def yesB (b : Bool) : B := if b then [49, 32] else [48, 32]
def rowB (l : List Int) : B := digB l.length ++ l.flatMap digB
def rowsB (l : List (List Int)) : B := digB l.length ++ l.flatMap rowB
def insP (i : Ins) : B := digB i.op ++ digB i.a
def codeB (l : List Ins) : B := digB l.length ++ l.flatMap insP
def nameP (s : B) : B := digB s.length ++ (s ++ [32])
def ptP (p : Pt) : B := digB p.x ++ (digB p.y ++ yesB p.on)
def ptsP (l : List Pt) : B := digB l.length ++ l.flatMap ptP
def partP (p : Part) : B := digB p.glyph ++ (digB p.x ++ digB p.y)
def partsP (l : List Part) : B := digB l.length ++ l.flatMap partP
def anchP (a : Anchor) : B := digB a.kind ++ (digB a.cls ++ (digB a.x ++ digB a.y))
def anchsP (l : List Anchor) : B := digB l.length ++ l.flatMap anchP
def delP (d : Delta) : B := digB d.region ++ (digB d.point ++ (digB d.x ++ digB d.y))
def delsP (l : List Delta) : B := digB l.length ++ l.flatMap delP
def glyphP (g : Glyph) : B := nameP g.name ++ (digB g.advance ++ (yesB g.mark ++ (ptsP g.points ++ (rowB g.ends ++ (partsP g.parts ++ (anchsP g.anchors ++ (delsP g.deltas ++ codeB g.hint)))))))
def glyphsP (l : List Glyph) : B := digB l.length ++ l.flatMap glyphP
def chrP (c : Chr) : B := digB c.rune ++ digB c.glyph
def chrsP (l : List Chr) : B := digB l.length ++ l.flatMap chrP
def callP (c : Call) : B := digB c.at' ++ digB c.lookup
def callsP (l : List Call) : B := digB l.length ++ l.flatMap callP
def ruleP (r : Rule) : B := rowsB r.back ++ (rowsB r.in' ++ (rowsB r.ahead ++ (rowB r.out ++ (callsP r.calls ++ digB r.x))))
def rulesP (l : List Rule) : B := digB l.length ++ l.flatMap ruleP
def lookP (l : Lookup) : B := digB l.kind ++ (yesB l.ignore ++ rulesP l.rules)
def looksP (l : List Lookup) : B := digB l.length ++ l.flatMap lookP
def featP (x : Feature) : B := nameP x.name ++ rowB x.lookups
def featsP (l : List Feature) : B := digB l.length ++ l.flatMap featP
def axisP (a : Axis) : B := nameP a.name ++ (digB a.min' ++ (digB a.def' ++ digB a.max'))
def axesP (l : List Axis) : B := digB l.length ++ l.flatMap axisP
def tentP (t : Tent) : B := digB t.start ++ (digB t.peak ++ digB t.stop)
def tentsP (l : List Tent) : B := digB l.length ++ l.flatMap tentP
def regP (r : Region) : B := tentsP r.tents
def regsP (l : List Region) : B := digB l.length ++ l.flatMap regP
def funcsP (l : List (List Ins)) : B := digB l.length ++ l.flatMap codeB
def printB (f : Fnt) : B := digB f.unit ++ (glyphsP f.glyphs ++ (chrsP f.chars ++ (looksP f.lookups ++ (featsP f.features ++ (axesP f.axes ++ (regsP f.regions ++ (funcsP f.funcs ++ rowB f.cvt)))))))

/-- texts that tell where they end -/
def PF {α : Type} (c : α → B) : Prop := ∀ x y r s, c x ++ r = c y ++ s → x = y ∧ r = s
theorem it_no32 (n : Int) : ∀ c ∈ itB n, c ≠ 32 := fun c hc e => by
  have := it_c n c hc
  rw [e] at this
  revert this
  decide
theorem it_inj {m n : Int} (h : itB m = itB n) : m = n := by
  have key : ∀ a b : Nat, Lib.decDigits a = Lib.decDigits b → a = b := fun a b e => by rw [← dec_val a, e, dec_val]
  unfold itB Lib.itoa at h
  split at h <;> split at h
  · injection h with _ h
    have := key _ _ h
    omega
  · obtain ⟨c, r, h1, h2⟩ := dec_head n.toNat
    rw [h1] at h
    injection h with h _
    exact absurd h.symm h2
  · obtain ⟨c, r, h1, h2⟩ := dec_head m.toNat
    rw [h1] at h
    injection h with h _
    exact absurd h h2
  · have := key _ _ h
    omega
theorem split32 {a b r s : B} (ha : ∀ c ∈ a, c ≠ 32) (hb : ∀ c ∈ b, c ≠ 32) (h : a ++ 32 :: r = b ++ 32 :: s) : a = b ∧ r = s := by
  induction a generalizing b with
  | nil =>
    cases b with
    | nil => simpa using h
    | cons y b =>
      simp only [List.nil_append, List.cons_append, List.cons.injEq] at h
      exact absurd h.1.symm (hb y (by simp))
  | cons x a ih =>
    cases b with
    | nil =>
      simp only [List.nil_append, List.cons_append, List.cons.injEq] at h
      exact absurd h.1 (ha x (by simp))
    | cons y b =>
      simp only [List.cons_append, List.cons.injEq] at h
      obtain ⟨h1, h2⟩ := ih (fun c hc => ha c (by simp [hc])) (fun c hc => hb c (by simp [hc])) h.2
      exact ⟨by rw [h.1, h1], h2⟩
theorem pf_dig : PF digB := fun x y r s h => by
  simp only [digB, List.append_assoc, List.cons_append, List.nil_append] at h
  obtain ⟨h1, h2⟩ := split32 (it_no32 x) (it_no32 y) h
  exact ⟨it_inj h1, h2⟩
theorem pf_yes : PF yesB := fun x y r s h => by
  cases x <;> cases y <;> simp [yesB] at h ⊢ <;> exact h
theorem pf_list {α : Type} {c : α → B} (hc : PF c) : PF (fun l : List α => digB l.length ++ l.flatMap c) := fun x y r s h => by
  simp only [List.append_assoc] at h
  obtain ⟨h1, h2⟩ := pf_dig _ _ _ _ h
  have hl : x.length = y.length := by exact_mod_cast h1
  clear h h1
  induction x generalizing y with
  | nil =>
    cases y with
    | nil => exact ⟨rfl, by simpa using h2⟩
    | cons b y => simp at hl
  | cons a x ih =>
    cases y with
    | nil => simp at hl
    | cons b y =>
      simp only [List.flatMap_cons, List.append_assoc] at h2
      obtain ⟨e1, e2⟩ := hc _ _ _ _ h2
      obtain ⟨e3, e4⟩ := ih y e2 (by simpa using hl)
      exact ⟨by rw [e1, e3], e4⟩
theorem pf_name : PF nameP := fun x y r s h => by
  simp only [nameP, List.append_assoc] at h
  obtain ⟨h1, h2⟩ := pf_dig _ _ _ _ h
  have hl : x.length = y.length := by exact_mod_cast h1
  obtain ⟨e1, e2⟩ := List.append_inj h2 hl
  simp only [List.cons_append, List.nil_append, List.cons.injEq, true_and] at e2
  exact ⟨e1, e2⟩
theorem pf_row : PF rowB := pf_list pf_dig
theorem pf_rows : PF rowsB := pf_list pf_row
theorem pf_ins : PF insP := fun x y r s h => by
  simp only [insP, List.append_assoc] at h
  obtain ⟨a1, h⟩ := pf_dig _ _ _ _ h
  obtain ⟨a2, h⟩ := pf_dig _ _ _ _ h
  cases x; cases y; simp_all
theorem pf_code : PF codeB := pf_list pf_ins
theorem pf_pt : PF ptP := fun x y r s h => by
  simp only [ptP, List.append_assoc] at h
  obtain ⟨a1, h⟩ := pf_dig _ _ _ _ h
  obtain ⟨a2, h⟩ := pf_dig _ _ _ _ h
  obtain ⟨a3, h⟩ := pf_yes _ _ _ _ h
  cases x; cases y; simp_all
theorem pf_part : PF partP := fun x y r s h => by
  simp only [partP, List.append_assoc] at h
  obtain ⟨a1, h⟩ := pf_dig _ _ _ _ h
  obtain ⟨a2, h⟩ := pf_dig _ _ _ _ h
  obtain ⟨a3, h⟩ := pf_dig _ _ _ _ h
  cases x; cases y; simp_all
theorem pf_anch : PF anchP := fun x y r s h => by
  simp only [anchP, List.append_assoc] at h
  obtain ⟨a1, h⟩ := pf_dig _ _ _ _ h
  obtain ⟨a2, h⟩ := pf_dig _ _ _ _ h
  obtain ⟨a3, h⟩ := pf_dig _ _ _ _ h
  obtain ⟨a4, h⟩ := pf_dig _ _ _ _ h
  cases x; cases y; simp_all
theorem pf_del : PF delP := fun x y r s h => by
  simp only [delP, List.append_assoc] at h
  obtain ⟨a1, h⟩ := pf_dig _ _ _ _ h
  obtain ⟨a2, h⟩ := pf_dig _ _ _ _ h
  obtain ⟨a3, h⟩ := pf_dig _ _ _ _ h
  obtain ⟨a4, h⟩ := pf_dig _ _ _ _ h
  cases x; cases y; simp_all
theorem pf_glyph : PF glyphP := fun x y r s h => by
  simp only [glyphP, List.append_assoc] at h
  obtain ⟨a1, h⟩ := pf_name _ _ _ _ h
  obtain ⟨a2, h⟩ := pf_dig _ _ _ _ h
  obtain ⟨a3, h⟩ := pf_yes _ _ _ _ h
  obtain ⟨a4, h⟩ := pf_list pf_pt _ _ _ _ h
  obtain ⟨a5, h⟩ := pf_row _ _ _ _ h
  obtain ⟨a6, h⟩ := pf_list pf_part _ _ _ _ h
  obtain ⟨a7, h⟩ := pf_list pf_anch _ _ _ _ h
  obtain ⟨a8, h⟩ := pf_list pf_del _ _ _ _ h
  obtain ⟨a9, h⟩ := pf_code _ _ _ _ h
  cases x; cases y; simp_all
theorem pf_chr : PF chrP := fun x y r s h => by
  simp only [chrP, List.append_assoc] at h
  obtain ⟨a1, h⟩ := pf_dig _ _ _ _ h
  obtain ⟨a2, h⟩ := pf_dig _ _ _ _ h
  cases x; cases y; simp_all
theorem pf_call : PF callP := fun x y r s h => by
  simp only [callP, List.append_assoc] at h
  obtain ⟨a1, h⟩ := pf_dig _ _ _ _ h
  obtain ⟨a2, h⟩ := pf_dig _ _ _ _ h
  cases x; cases y; simp_all
theorem pf_rule : PF ruleP := fun x y r s h => by
  simp only [ruleP, List.append_assoc] at h
  obtain ⟨a1, h⟩ := pf_rows _ _ _ _ h
  obtain ⟨a2, h⟩ := pf_rows _ _ _ _ h
  obtain ⟨a3, h⟩ := pf_rows _ _ _ _ h
  obtain ⟨a4, h⟩ := pf_row _ _ _ _ h
  obtain ⟨a5, h⟩ := pf_list pf_call _ _ _ _ h
  obtain ⟨a6, h⟩ := pf_dig _ _ _ _ h
  cases x; cases y; simp_all
theorem pf_look : PF lookP := fun x y r s h => by
  simp only [lookP, List.append_assoc] at h
  obtain ⟨a1, h⟩ := pf_dig _ _ _ _ h
  obtain ⟨a2, h⟩ := pf_yes _ _ _ _ h
  obtain ⟨a3, h⟩ := pf_list pf_rule _ _ _ _ h
  cases x; cases y; simp_all
theorem pf_feat : PF featP := fun x y r s h => by
  simp only [featP, List.append_assoc] at h
  obtain ⟨a1, h⟩ := pf_name _ _ _ _ h
  obtain ⟨a2, h⟩ := pf_row _ _ _ _ h
  cases x; cases y; simp_all
theorem pf_axis : PF axisP := fun x y r s h => by
  simp only [axisP, List.append_assoc] at h
  obtain ⟨a1, h⟩ := pf_name _ _ _ _ h
  obtain ⟨a2, h⟩ := pf_dig _ _ _ _ h
  obtain ⟨a3, h⟩ := pf_dig _ _ _ _ h
  obtain ⟨a4, h⟩ := pf_dig _ _ _ _ h
  cases x; cases y; simp_all
theorem pf_tent : PF tentP := fun x y r s h => by
  simp only [tentP, List.append_assoc] at h
  obtain ⟨a1, h⟩ := pf_dig _ _ _ _ h
  obtain ⟨a2, h⟩ := pf_dig _ _ _ _ h
  obtain ⟨a3, h⟩ := pf_dig _ _ _ _ h
  cases x; cases y; simp_all
theorem pf_reg : PF regP := fun x y r s h => by
  obtain ⟨a1, h⟩ := pf_list pf_tent _ _ _ _ h
  cases x; cases y; simp_all
theorem pf_print : PF printB := fun x y r s h => by
  simp only [printB, List.append_assoc] at h
  obtain ⟨a1, h⟩ := pf_dig _ _ _ _ h
  obtain ⟨a2, h⟩ := pf_list pf_glyph _ _ _ _ h
  obtain ⟨a3, h⟩ := pf_list pf_chr _ _ _ _ h
  obtain ⟨a4, h⟩ := pf_list pf_look _ _ _ _ h
  obtain ⟨a5, h⟩ := pf_list pf_feat _ _ _ _ h
  obtain ⟨a6, h⟩ := pf_list pf_axis _ _ _ _ h
  obtain ⟨a7, h⟩ := pf_list pf_reg _ _ _ _ h
  obtain ⟨a8, h⟩ := pf_list pf_code _ _ _ _ h
  obtain ⟨a9, h⟩ := pf_row _ _ _ _ h
  cases x; cases y; simp_all
theorem printB_inj {f g : Fnt} (h : printB f = printB g) : f = g := (pf_print f g [] [] (by simp [h])).1
end Go.Proofs.YtkijckccfookeaaGreatDoor
/- Plain Lean: the sources of ParseClasses, parsed. -/
namespace Go.Proofs.YtkijckccfookeaaGreatDoor
open Go.RowKit

/-- glyphs of names g0, g1, .. -/
def gN (i : Int) : B := 103 :: itB i
def gGly (i : Nat) : Glyph := ⟨gN i, 0, false, [], [], [], [], [], []⟩
def gGs (n : Nat) : List Glyph := (List.range n).map gGly
theorem gGs_len (n : Nat) : (gGs n).length = n := by simp [gGs]
theorem gN_name (i : Nat) (h : i ≤ 999) : nameB (gN i) = true := by
  have e : itB (i : Int) = Lib.decDigits i := by
    unfold itB Lib.itoa
    rw [if_neg (by omega), Int.toNat_natCast]
  have hl := dec_len i (by omega)
  have hd : ∀ j c, j < (gN i).length → (gN i)[j]? = some c → nameAt j c = true := fun j c _ hj => by
    unfold gN at hj
    rw [e] at hj
    cases j with
    | zero =>
      simp only [List.getElem?_cons_zero, Option.some.injEq] at hj
      subst hj
      decide
    | succ j =>
      simp only [List.getElem?_cons_succ] at hj
      have := dec_digits i c (List.mem_of_getElem? hj)
      simp [nameAt, this]
  rw [nameB_yes _ hd]
  unfold gN
  rw [e]
  simp
  omega
theorem gN_inj {i j : Int} (h : gN i = gN j) : i = j := by
  injection h with _ h
  exact it_inj h
theorem gGs_names (n : Nat) : ((gGs n).map (·.name)).Nodup := by
  unfold gGs
  rw [List.map_map]
  have : ∀ l : List Nat, l.Nodup → (l.map ((·.name) ∘ gGly)).Nodup := by
    intro l hl
    induction l with
    | nil => simp
    | cons a r ih =>
      rw [List.nodup_cons] at hl
      rw [List.map_cons, List.nodup_cons]
      refine ⟨fun hm => ?_, ih hl.2⟩
      rw [List.mem_map] at hm
      obtain ⟨b, hb, e⟩ := hm
      have := gN_inj e
      obtain rfl : b = a := by omega
      exact hl.1 hb
  exact this _ List.nodup_range
theorem gGs_at (n : Nat) (i : Int) (h : In n i) : gnB (gGs n) i = gN i := by
  obtain ⟨h1, h2⟩ := h
  have e : (gGs n)[i.toNat]? = some (gGly i.toNat) := by
    unfold gGs
    rw [List.getElem?_map, List.getElem?_range (by omega)]
    rfl
  unfold gnB
  rw [if_neg (by omega), e]
  show gN ((i.toNat : Nat) : Int) = gN i
  rw [Int.toNat_of_nonneg h1]
theorem gGs_ok (n : Nat) (hn : n ≤ 1000) : ∀ g ∈ gGs n, OkG (gGs n).length g := by
  intro g hg
  unfold gGs at hg
  rw [List.mem_map] at hg
  obtain ⟨i, hi, rfl⟩ := hg
  rw [List.mem_range] at hi
  exact { name := gN_name i (by omega), adv := by unfold N9; simp [gGly], pts := by simp [gGly], ends := rfl, parts := by simp [gGly], anch := by simp [gGly], dels := by simp [gGly], hint := fun i hi => by simp [gGly] at hi }

/-- glyphs ahead -/
theorem runs_gs {gl : Gl} {n : Nat} (hn : n ≤ 1000) (hg : GlOk gl (gGs n)) : Runs gl ps0 ((gGs n).flatMap (glyL (gGs n) false)) ⟨⟨0, gGs n, [], [], [], [], [], [], []⟩, false, []⟩ :=
  runs_glyphs hg false (gGs_ok n hn) ps0 rfl
theorem gs_names {n : Nat} (hn : n ≤ 1000) (R : List (List B)) (hR : noG R) : GlOk (gnames 0 ((gGs n).flatMap (glyL (gGs n) false) ++ R)) (gGs n) := by
  rw [gnames_glyphs _ _ _ (fun g hg => (gGs_ok n hn g hg).name) R hR 0]
  exact ⟨fun i g hi => by rw [names_at _ (gGs_names n) 0 i g hi, Nat.zero_add], fun g hg => (gGs_ok n hn g hg).name⟩
theorem gs_map {n : Nat} (l : List Int) (hl : ∀ i ∈ l, In n i) : l.map gN = l.map (gnB (gGs n)) := List.map_congr_left fun i hi => (gGs_at n i (hl i hi)).symm
theorem gs_len (n : Nat) : ((gGs n).flatMap (glyL (gGs n) false)).length = n := by
  have : ∀ (G : List Glyph) m, ((List.map gGly (List.range m)).flatMap (glyL G false)).length = m := by
    intro G m
    induction m with
    | zero => rfl
    | succ m ih =>
      rw [List.range_succ, List.map_append, List.flatMap_append, List.length_append, ih]
      simp [glyL, gGly, contsFrom]
  exact this (gGs n) n
/-- a line that is wrong -/
theorem Runs.err {gl : Gl} {s s' : PS} {A R : List (List B)} {l : List B} {e : Int} (h : Runs gl s A s') (he : stmt gl s' l = .error e) (n : Nat) : stmts gl s (enumL n (A ++ l :: R)) = .error (((n + A.length : Nat) : Int), e) := by
  rw [enumL_app, stmts_app, h.2 n]
  simp only [enumL, stmts, he]
theorem parse_err {A R : List (List B)} {l : List B} {e : Int} {s : PS} (h : Runs (gnames 0 (A ++ l :: R)) ps0 A s) (hl : okL (l :: R)) (he : stmt (gnames 0 (A ++ l :: R)) s l = .error e) : parseL ((A ++ l :: R).flatMap lnB) = .error (((1 + A.length : Nat) : Int), e) := by
  have hk : okL (A ++ l :: R) := fun x hx => by
    rw [List.mem_append] at hx
    rcases hx with hx | hx
    · exact h.1 x hx
    · exact hl x hx
  rw [parseL, linesT_src _ hk, enumL_snd, h.err he 1]
  rfl
/-- classes -/
def clL (n : B) (ws : List B) : List B := sClass :: n :: ([91] :: ws ++ [[93]])
theorem setsT_br (ws : List B) (hw : ∀ w ∈ ws, w ≠ [91] ∧ w ≠ [93]) : setsT ([91] :: ws ++ [[93]]) = some [ws] := by
  rw [setsT, List.cons_append, setsGoT, if_pos rfl]
  simp only [Bool.false_eq_true, if_false]
  rw [setsT_in ws hw]
  simp [setsGoT]
theorem setGo_app (gl : Gl) (cls : List (B × List Int)) (acc : List Int) (a b : List B) : setGo gl cls acc (a ++ b) = (match setGo gl cls acc a with | .ok x => setGo gl cls x b | .error e => .error e) := by
  induction a generalizing acc with
  | nil => rfl
  | cons t r ih =>
    rw [List.cons_append, setGo, setGo]
    cases setOne gl cls t with
    | error e => rfl
    | ok c =>
      simp only
      split
      · rfl
      · exact ih _
theorem setGo_at {gl : Gl} {cls : List (B × List Int)} {n : B} {c : List Int} (h : cls.lookup n = some c) (acc : List Int) (hl : acc.length + c.length ≤ 1000) : setGo gl cls acc [64 :: n] = .ok (acc ++ c) := by
  rw [setGo, setOne, h]
  simp only
  rw [if_neg (by rw [List.length_append]; omega)]
  rfl
theorem setGo_no {gl : Gl} {cls : List (B × List Int)} {n : B} (h : cls.lookup n = none) (acc : List Int) (r : List B) : setGo gl cls acc ((64 :: n) :: r) = .error 23 := by
  rw [setGo, setOne, h]
theorem st_clL {gl : Gl} {s : PS} {n : B} {ws : List B} {g : List Int} (hn : nameB n = true) (hw : ∀ w ∈ ws, w ≠ [91] ∧ w ≠ [93]) (hg : setGo gl s.cls [] ws = .ok g) (hl : s.cls.lookup n = none) : stmt gl s (clL n ws) = .ok { s with cls := s.cls ++ [(n, g)] } := by
  rw [clL, st_class, rClass, setsT_br ws hw]
  simp only [eName_ok hn, hg, hl]
  rfl
theorem st_clT {gl : Gl} {s : PS} {n : B} {ws : List B} {g c : List Int} (hn : nameB n = true) (hw : ∀ w ∈ ws, w ≠ [91] ∧ w ≠ [93]) (hg : setGo gl s.cls [] ws = .ok g) (hl : s.cls.lookup n = some c) : stmt gl s (clL n ws) = .error 24 := by
  rw [clL, st_class, rClass, setsT_br ws hw]
  simp only [eName_ok hn, hg, hl]
  rfl
theorem ok_clL {n : B} {ws : List B} (hn : tokB n = true) (hw : ∀ w ∈ ws, tokB w = true) : clL n ws ≠ [] ∧ ∀ w ∈ clL n ws, tokB w = true := by
  refine tok_all2 (by decide) (tok_all2 hn fun w hm => ?_).2
  simp only [List.cons_append, List.mem_cons, List.mem_append, List.not_mem_nil, or_false] at hm
  rcases hm with rfl | hm | rfl
  · decide
  · exact hw w hm
  · decide
def tOne : B := [111, 110, 101]
def tTwo : B := [116, 119, 111]
def tThree : B := [116, 104, 114, 101, 101]
def kChain : B := [99, 104, 97, 105, 110]
def firL (x : List Int) : List B := clL tOne (x.map gN)
def secL (y : List Int) (b : Bool) : List B := clL tTwo (y.map gN ++ if b then [64 :: tOne] else [])
def secBad : List B := [sClass, tTwo, 64 :: tTwo]
def ruleW1 : List B := [sRule, 64 :: tTwo, [91], 64 :: tOne, 64 :: tTwo, [93], [47], 64 :: tOne, [47], [62]]
def ruleBad : List B := [sRule, 64 :: tThree, [47], 64 :: tOne, [47], [62]]
def chainL : List B := [sLookup, kChain]
def yAll (x y : List Int) (b : Bool) : List Int := y ++ if b then x else []
section
variable {x y : List Int} {b : Bool} (hx : ∀ n ∈ x, In 8 n) (hy : ∀ n ∈ y, In 8 n) (hxl : x.length ≤ 8) (hyl : y.length ≤ 8)
theorem gN_br (i : Nat) (h : i ≤ 999) : gN i ≠ [91] ∧ gN i ≠ [93] := ⟨(name_br (gN_name i h)).1, (name_br (gN_name i h)).2.1⟩
theorem gN_in {n : Int} (h : In 8 n) : ∃ i : Nat, i ≤ 999 ∧ n = i := ⟨n.toNat, by obtain ⟨a, b⟩ := h; omega, by obtain ⟨a, b⟩ := h; omega⟩
include hx in
theorem fir_w : (∀ w ∈ x.map gN, w ≠ [91] ∧ w ≠ [93]) ∧ ∀ w ∈ x.map gN, tokB w = true := by
  constructor <;> intro w hw <;> rw [List.mem_map] at hw <;> obtain ⟨n, hn, rfl⟩ := hw <;> obtain ⟨i, hi, rfl⟩ := gN_in (hx n hn)
  · exact gN_br i hi
  · exact name_tok (gN_name i hi)
include hy in
theorem sec_w : (∀ w ∈ y.map gN ++ (if b then [64 :: tOne] else []), w ≠ [91] ∧ w ≠ [93]) ∧ ∀ w ∈ y.map gN ++ (if b then [64 :: tOne] else []), tokB w = true := by
  obtain ⟨h1, h2⟩ := fir_w hy
  constructor <;> intro w hw <;> rw [List.mem_append] at hw <;> rcases hw with hw | hw
  · exact h1 w hw
  · split at hw
    · simp only [List.mem_singleton] at hw; subst hw; decide
    · simp at hw
  · exact h2 w hw
  · split at hw
    · simp only [List.mem_singleton] at hw; subst hw; decide
    · simp at hw
def s8 : PS := ⟨⟨0, gGs 8, [], [], [], [], [], [], []⟩, false, []⟩
variable {gl : Gl} (hg : GlOk gl (gGs 8))
include hg hx hxl in
theorem fir_st : stmt gl s8 (firL x) = .ok { s8 with cls := [(tOne, x)] } := by
  have h1 : setGo gl s8.cls [] (x.map gN) = .ok x := by
    rw [gs_map x hx, setGo_names hg _ x (fun n hn => by rw [gGs_len]; exact hx n hn) [] (by simp; omega)]
    simp
  exact st_clL (by decide) (fir_w hx).1 h1 rfl
include hg hy hyl hxl in
theorem sec_go (c : List (B × List Int)) (hc : c.lookup tOne = some x) : setGo gl c [] (y.map gN ++ if b then [64 :: tOne] else []) = .ok (yAll x y b) := by
  rw [setGo_app, gs_map y hy, setGo_names hg _ y (fun n hn => by rw [gGs_len]; exact hy n hn) [] (by simp; omega)]
  simp only [List.nil_append]
  unfold yAll
  cases b with
  | false => simp [setGo]
  | true =>
    simp only [if_true]
    exact setGo_at hc _ (by omega)
include hg hy hyl hxl in
theorem sec_st : stmt gl { s8 with cls := [(tOne, x)] } (secL y b) = .ok { s8 with cls := [(tOne, x), (tTwo, yAll x y b)] } :=
  st_clL (s := { s8 with cls := [(tOne, x)] }) (by decide) (sec_w hy).1 (sec_go hy hxl hyl hg _ rfl) rfl
def s9 (x y : List Int) : PS := ⟨⟨0, gGs 8, [], [⟨4, false, []⟩], [], [], [], [], []⟩, false, [(tOne, x), (tTwo, y)]⟩
theorem cha_st (x y : List Int) : stmt gl { s8 with cls := [(tOne, x), (tTwo, y)] } chainL = .ok (s9 x y) := by
  rw [chainL, st_lookup, rLookup]
  rfl
theorem rowsGo_cons (gl : Gl) (cls : List (B × List Int)) (l : List B) (r : List (List B)) (g : List Int) (gs : List (List Int)) (h : setGo gl cls [] l = .ok g) (k : rowsGo gl cls r = .ok gs) : rowsGo gl cls (l :: r) = .ok (g :: gs) := by
  rw [rowsGo, h, k]
theorem rul_st (x y : List Int) (hxl : x.length ≤ 8) (hyl : y.length ≤ 16) : stmt gl (s9 x y) ruleW1 = .ok ⟨⟨0, gGs 8, [], [⟨4, false, [⟨[setOf y, setOf (x ++ y)], [setOf x], [], [], [], 0⟩]⟩], [], [], [], [], []⟩, false, [(tOne, x), (tTwo, y)]⟩ := by
  have l1 : (s9 x y).cls.lookup tOne = some x := rfl
  have l2 : (s9 x y).cls.lookup tTwo = some y := rfl
  have g1 : setGo gl (s9 x y).cls [] [64 :: tTwo] = .ok y := by rw [setGo_at l2 [] (by simp; omega)]; simp
  have g2 : setGo gl (s9 x y).cls [] [64 :: tOne, 64 :: tTwo] = .ok (x ++ y) := by
    have : ([64 :: tOne, 64 :: tTwo] : List B) = [64 :: tOne] ++ [64 :: tTwo] := rfl
    rw [this, setGo_app, setGo_at l1 [] (by simp; omega)]
    simp only [List.nil_append]
    exact setGo_at l2 x (by omega)
  have g3 : setGo gl (s9 x y).cls [] [64 :: tOne] = .ok x := by rw [setGo_at l1 [] (by simp; omega)]; simp
  have r1 := rowsGo_cons gl _ _ _ _ _ g1 (rowsGo_cons gl _ _ [] _ [] g2 rfl)
  have r2 := rowsGo_cons gl _ _ [] _ [] g3 rfl
  have p1 : partsT [64 :: tTwo, [91], 64 :: tOne, 64 :: tTwo, [93], [47], 64 :: tOne, [47], [62]] = some [[64 :: tTwo, [91], 64 :: tOne, 64 :: tTwo, [93]], [64 :: tOne], [], []] := by decide
  have p2 : setsT [64 :: tTwo, [91], 64 :: tOne, 64 :: tTwo, [93]] = some [[64 :: tTwo], [64 :: tOne, 64 :: tTwo]] := by decide
  have p3 : setsT [64 :: tOne] = some [[64 :: tOne]] := by decide
  have p4 : setsT [] = some [] := by decide
  have hlk : (s9 x y).f.lookups.getLast? = some ⟨4, false, []⟩ := rfl
  rw [ruleW1, st_rule, rRule, hlk]
  simp only [p1, p2, p3, p4, r1, r2]
  simp [areOut, callsOk, rowsGo, onLastL, s9]
theorem rul_bad (x y : List Int) : stmt gl (s9 x y) ruleBad = .error 23 := by
  have g1 : setGo gl (s9 x y).cls [] [64 :: tThree] = .error 23 := setGo_no rfl _ _
  have p1 : partsT [64 :: tThree, [47], 64 :: tOne, [47], [62]] = some [[64 :: tThree], [64 :: tOne], [], []] := by decide
  have p2 : setsT [64 :: tThree] = some [[64 :: tThree]] := by decide
  have p3 : setsT [64 :: tOne] = some [[64 :: tOne]] := by decide
  have p4 : setsT [] = some [] := by decide
  have hlk : (s9 x y).f.lookups.getLast? = some ⟨4, false, []⟩ := rfl
  rw [ruleBad, st_rule, rRule, hlk]
  simp only [p1, p2, p3, p4, rowsGo, g1]
  simp [areOut, callsOk]
theorem sec_bad (x : List Int) : stmt gl { s8 with cls := [(tOne, x)] } secBad = .error 23 := by
  have g1 : setGo gl [(tOne, x)] [] [64 :: tTwo] = .error 23 := setGo_no rfl _ _
  have p2 : setsT [64 :: tTwo] = some [[64 :: tTwo]] := by decide
  rw [secBad, st_class, rClass, p2]
  simp only [g1]
  rw [if_neg (by decide)]
end
def gHead : List (List B) := (gGs 8).flatMap (glyL (gGs 8) false)
theorem noG_tail (l : List (List B)) (h : ∀ x ∈ l, x.head? ≠ some sGlyph) : noG l := fun x hx w r e => by
  have := h x hx
  rw [e] at this
  simpa using this
theorem cls_right (x y : List Int) (b : Bool) (hx : ∀ n ∈ x, In 8 n) (hy : ∀ n ∈ y, In 8 n) (hxl : x.length ≤ 8) (hyl : y.length ≤ 8) :
    parseL ((gHead ++ [firL x, secL y b, chainL, ruleW1]).flatMap lnB) = .ok ⟨0, gGs 8, [], [⟨4, false, [⟨[setOf (yAll x y b), setOf (x ++ yAll x y b)], [setOf x], [], [], [], 0⟩]⟩], [], [], [], [], []⟩ := by
  have hg : GlOk (gnames 0 (gHead ++ [firL x, secL y b, chainL, ruleW1])) (gGs 8) := gs_names (by omega) _ (noG_tail _ (by simp [firL, secL, clL, chainL, ruleW1]))
  refine parse_lines _ _ false [(tOne, x), (tTwo, yAll x y b)] ((runs_gs (by omega) hg).app ?_)
  refine .cons (ok_clL (by decide) (fir_w hx).2) (fir_st hx hxl hg) (.cons (ok_clL (by decide) (sec_w hy).2) (sec_st hy hxl hyl hg) (.cons (by decide) (cha_st _ _) (.one (by decide) (rul_st _ _ hxl ?_))))
  unfold yAll
  rw [List.length_append]
  split
  · omega
  · simp only [List.length_nil]; omega
theorem cls_twice (x : List Int) (R : List (List B)) (hR : okL R) (hn : noG R) (hx : ∀ n ∈ x, In 8 n) (hxl : x.length ≤ 8) : parseL ((gHead ++ [firL x] ++ firL x :: R).flatMap lnB) = .error (10, 24) := by
  have hg : GlOk (gnames 0 (gHead ++ [firL x] ++ firL x :: R)) (gGs 8) := by
    rw [List.append_assoc]
    exact gs_names (by omega) _ (noG_app (noG_tail _ (by simp [firL, clL])) (noG_app (noG_tail [firL x] (by simp [firL, clL])) hn))
  have h1 : Runs (gnames 0 (gHead ++ [firL x] ++ firL x :: R)) ps0 (gHead ++ [firL x]) { s8 with cls := [(tOne, x)] } := (runs_gs (by omega) hg).app (.one (ok_clL (by decide) (fir_w hx).2) (fir_st hx hxl hg))
  have h2 : setGo (gnames 0 (gHead ++ [firL x] ++ firL x :: R)) [(tOne, x)] [] (x.map gN) = .ok x := by
    rw [gs_map x hx, setGo_names hg _ x (fun n hn => by rw [gGs_len]; exact hx n hn) [] (by simp; omega)]
    simp
  have := parse_err (R := R) h1 (fun l hl => by
    rw [List.mem_cons] at hl
    rcases hl with rfl | hl
    · exact ok_clL (by decide) (fir_w hx).2
    · exact hR l hl) (st_clT (s := { s8 with cls := [(tOne, x)] }) (by decide) (fir_w hx).1 h2 rfl)
  rw [this, List.length_append, show gHead.length = 8 from gs_len 8]
  rfl
theorem cls_name (x y : List Int) (b : Bool) (hx : ∀ n ∈ x, In 8 n) (hy : ∀ n ∈ y, In 8 n) (hxl : x.length ≤ 8) (hyl : y.length ≤ 8) : parseL ((gHead ++ [firL x, secL y b, chainL] ++ [ruleBad]).flatMap lnB) = .error (12, 23) := by
  have hg : GlOk (gnames 0 (gHead ++ [firL x, secL y b, chainL] ++ [ruleBad])) (gGs 8) := by
    rw [List.append_assoc]
    exact gs_names (by omega) _ (noG_tail _ (by simp [firL, secL, clL, chainL, ruleBad]))
  have h1 := (runs_gs (by omega) hg).app (.cons (ok_clL (by decide) (fir_w hx).2) (fir_st hx hxl hg) (.cons (ok_clL (by decide) (sec_w hy).2) (sec_st (b := b) hy hxl hyl hg) (.one (by decide) (cha_st _ _))))
  have := parse_err (R := []) h1 (by unfold okL; decide) (rul_bad _ _)
  rw [show (gHead ++ [firL x, secL y b, chainL]).length = 11 by rw [List.length_append, show gHead.length = 8 from gs_len 8]; rfl] at this
  exact this
theorem cls_self (x : List Int) (R : List (List B)) (hR : okL R) (hn : noG R) (hx : ∀ n ∈ x, In 8 n) (hxl : x.length ≤ 8) : parseL ((gHead ++ [firL x] ++ secBad :: R).flatMap lnB) = .error (10, 23) := by
  have hg : GlOk (gnames 0 (gHead ++ [firL x] ++ secBad :: R)) (gGs 8) := by
    rw [List.append_assoc]
    exact gs_names (by omega) _ (noG_app (noG_tail _ (by simp [firL, clL])) (noG_app (noG_tail [secBad] (by simp [secBad])) hn))
  have h1 : Runs (gnames 0 (gHead ++ [firL x] ++ secBad :: R)) ps0 (gHead ++ [firL x]) { s8 with cls := [(tOne, x)] } := (runs_gs (by omega) hg).app (.one (ok_clL (by decide) (fir_w hx).2) (fir_st hx hxl hg))
  have := parse_err (R := R) h1 (fun l hl => by
    rw [List.mem_cons] at hl
    rcases hl with rfl | hl
    · decide
    · exact hR l hl) (sec_bad x)
  rw [this, List.length_append, show gHead.length = 8 from gs_len 8]
  rfl
end Go.Proofs.YtkijckccfookeaaGreatDoor
