/- parse: the font in memory when all is read; the parser at its start. Plain facts, no program. -/
import Derived.Test.YtkijckccfookeaaGreatDoorM22
import Derived.Test.YtkijckccfookeaaGreatDoorM26
import Derived.Test.YtkijckccfookeaaGreatDoorLinesT
import Derived.Test.YtkijckccfookeaaGreatDoorProg
import Derived.BigQuiet
namespace Go.Proofs.YtkijckccfookeaaGreatDoor
open Go.RowKit

theorem fz_dt {w : World} {rv : Rows} : ∀ b, Fz w rv b → Dt w b := fun b ⟨cs, t, h1, h2, _⟩ => ⟨cs, t, h1, h2⟩
theorem own_dt {w : World} {Bd : Nat} {rv : Rows} (h : Live w Bd rv) {j : Nat} (hj : j < 15) : ∀ g, (rv j).v.ownBlock = some g → Dt w g := fun g hg => by
  obtain ⟨cur, hb⟩ := ownBlock_bk (h.own j hj) hg
  exact ⟨cur, _, hb, kT_data j⟩
theorem Live.fin {α : Type} {R : Rel α} (ok : R.Ok) {w : World} {Bd : Nat} {rv : Rows} (h : Live w Bd rv) {j : Nat} (hj : j < 15) {size : Nat} (hs : kS j = size) {xs : List α} (hn : (rv j).n = xs.length) (hf : Fl R size w (Dt w) (rv j).xs xs) : ∃ A c, (rv j).v = .slice A xs.length c ∧ Sl R size w (Dt w) A xs := by
  obtain ⟨A, c, hv⟩ := own_slice (h.own j hj)
  have ho := h.own j hj
  have hd := own_dt h hj
  rw [hv] at ho hd
  refine ⟨A, c, by rw [hv, hn], ?_⟩
  subst hs
  exact Sl.of_own' ho hf hd (kS_pos j)
theorem Live.finD {α : Type} {R : Rel α} (ok : R.Ok) {w : World} {Bd : Nat} {rv : Rows} (h : Live w Bd rv) {j : Nat} (hj : j < 15) {size : Nat} (hs : kS j = size) {xs : List α} (hf : RowD R size w (Fz w rv) (rv j) xs) : ∃ A c, (rv j).v = .slice A xs.length c ∧ Sl R size w (Dt w) A xs :=
  h.fin ok hj hs hf.1 (hf.2.mono ok fz_dt)
theorem PSt.done {w : World} {Bd p gm cm : Nat} {gl : Gl} {s : PS} {rv : Rows} {K : Nat} (h : PSt w Bd p gm cm gl s rv K) : FntR w (Dt w) [.int .i64 s.f.unit, (rv 0).v, (rv 1).v, (rv 2).v, (rv 3).v, (rv 4).v, (rv 5).v, (rv 6).v, (rv 7).v] s.f := by
  have hl := h.live
  obtain ⟨A0, c0, e0, f0⟩ := hl.fin GlyphR.ok (j := 0) (by decide) rfl h.fnt.gly.1 ((GlD.told hl h.fnt.gly).mono GlyphR.ok fz_dt)
  obtain ⟨A1, c1, e1, f1⟩ := hl.finD ChrR.ok (j := 1) (by decide) rfl h.fnt.chr
  have hlk : Fl LookupR 3 w (Dt w) (rv 2).xs s.f.lookups := by
    rcases h.fnt.lks.2 with ⟨g1, g2⟩ | ⟨init, l, ci, g1, g2, g3, g4, g5⟩
    · rw [g1, g2]; exact Fl.nil
    · obtain ⟨A, c, e, f⟩ := hl.finD RuleR.ok (j := 14) (by decide) rfl g5
      rw [g1, g2, e]
      exact (g4.mono LookupR.ok fz_dt).append (Fl.one (R := LookupR) ⟨A, c, rfl, g3, f⟩ rfl)
  obtain ⟨A2, c2, e2, f2⟩ := hl.fin LookupR.ok (j := 2) (by decide) rfl h.fnt.lks.1 hlk
  obtain ⟨A3, c3, e3, f3⟩ := hl.finD FeatureR.ok (j := 3) (by decide) rfl h.fnt.fts
  obtain ⟨A4, c4, e4, f4⟩ := hl.finD AxisR.ok (j := 4) (by decide) rfl h.fnt.axs
  obtain ⟨A5, c5, e5, f5⟩ := hl.finD RegionR.ok (j := 5) (by decide) rfl h.fnt.rgs
  obtain ⟨A6, c6, e6, f6⟩ := hl.finD CodeR.ok (j := 6) (by decide) rfl h.fnt.fns
  obtain ⟨A7, c7, e7, f7⟩ := hl.finD IntR.ok (j := 7) (by decide) rfl h.fnt.cvt
  rw [e0, e1, e2, e3, e4, e5, e6, e7]
  exact ⟨A0, c0, A1, c1, A2, c2, A3, c3, A4, c4, A5, c5, A6, c6, A7, c7, rfl, h.fnt.unit, f0, f1, f2, f3, f4, f5, f6, f7⟩
def rv0 : Rows := fun _ => RV.nil
theorem Live.start (w : World) (Bd : Nat) : Live w Bd rv0 := ⟨fun j _ => World.ownsRow_nil w Bd _ _, fun i j _ _ _ g h => by cases h⟩
theorem FD.start (w : World) (S : Bs) : FD w S rv0 f0 :=
  { unit := ⟨by decide, by decide⟩, gly := ⟨rfl, .inl ⟨rfl, rfl⟩⟩, chr := RowD.nil _ _ _ _, lks := ⟨rfl, .inl ⟨rfl, rfl⟩⟩, fts := RowD.nil _ _ _ _, axs := RowD.nil _ _ _ _, rgs := RowD.nil _ _ _ _, fns := RowD.nil _ _ _ _, cvt := RowD.nil _ _ _ _ }
theorem PSt.start {w : World} {Bd p gm cm : Nat} {gl : Gl} (hp : Bk w p tPar (parCells ps0 rv0 gm cm)) (hg : MapF embB w gm (gF gl)) (hc : MapF embB w cm (fun _ => none)) (hI : ∀ t n, gl.lookup t = some n → n ≤ 1000000000) (hB : Bd ≤ p ∧ Bd ≤ gm ∧ Bd ≤ cm ∧ gm ≠ cm) : PSt w Bd p gm cm gl ps0 rv0 0 :=
  { par := hp, live := Live.start _ _, fnt := FD.start _ _, gmp := hg, glI := hI, cls := ⟨_, hc, fun t => .inl ⟨rfl, rfl⟩⟩, few := fun j _ => Nat.le_refl _, low := hB }
/-- how many words there are -/
def tot (l : List (List Wd)) : Nat := (l.map List.length).sum
theorem tot_from (ps : List B) (n : Nat) : tot (linesFrom n ps) ≤ (ps.map List.length).sum := by
  induction ps generalizing n with
  | nil => exact Nat.le_refl _
  | cons p ps ih =>
    have h1 := ih (n + 1)
    have h2 := one_len p
    unfold tot at h1 ⊢
    rw [linesFrom]
    split
    · simp only [List.nil_append, List.map_cons, List.sum_cons]; omega
    · simp only [List.map_append, List.map_cons, List.map_nil, List.sum_append, List.sum_cons, List.sum_nil, num_len]; omega
theorem pcs_sum (s : B) : ((pcs s).map List.length).sum ≤ s.length := by
  induction s with
  | nil => exact Nat.le_refl _
  | cons c r ih =>
    rw [pcs]
    split
    · simp only [List.map_cons, List.sum_cons, List.length_nil, List.length_cons]; omega
    · cases hp : pcs r with
      | nil => exact absurd hp (pcs_ne r)
      | cons p ps =>
        rw [hp] at ih
        simp only [List.map_cons, List.sum_cons, List.length_cons] at ih ⊢
        omega
theorem tot_lines (s : B) : tot (linesL s) ≤ s.length := Nat.le_trans (tot_from _ _) (pcs_sum s)
theorem tot_take (L : List (List Wd)) (k : Nat) (r : List Wd) (h : L[k]? = some r) : tot (L.take k) + r.length ≤ tot L ∧ tot (L.take (k + 1)) = tot (L.take k) + r.length := by
  have hk := (List.getElem?_eq_some_iff.1 h).1
  have e : L.take (k + 1) = L.take k ++ [r] := by rw [List.take_add_one, h]; rfl
  have e2 : tot (L.take (k + 1)) = tot (L.take k) + r.length := by unfold tot; rw [e]; simp
  refine ⟨?_, e2⟩
  have : tot L = tot (L.take (k + 1)) + tot (L.drop (k + 1)) := by
    unfold tot
    conv => lhs; rw [← List.take_append_drop (k + 1) L]
    rw [List.map_append, List.sum_append]
  omega
theorem lines_ne (s : B) : ∀ r ∈ linesL s, r ≠ [] := by
  unfold linesL
  generalize 1 = n
  induction pcs s generalizing n with
  | nil => intro r hr; simp [linesFrom] at hr
  | cons p ps ih =>
    intro r hr
    rw [linesFrom, List.mem_append] at hr
    rcases hr with hr | hr
    · split at hr
      · simp at hr
      · rename_i h
        simp only [List.mem_singleton] at hr
        subst hr
        simpa [num] using h
    · exact ih _ r hr
theorem lines_few (s : B) : (linesL s).length ≤ s.length + 1 := by
  have h1 := linesFrom_len 1 (pcs s)
  have h2 := pcs_count s
  have h3 : s.count 10 ≤ s.length := List.count_le_length
  unfold linesL
  omega
/-- one more statement -/
theorem stmts_take {gl : Gl} {L : List (Int × List B)} {k : Nat} {no : Int} {l : List B} {s : PS} (h : stmts gl ps0 (L.take k) = .ok s) (hk : L[k]? = some (no, l)) : stmts gl ps0 (L.take (k + 1)) = (match stmt gl s l with | .ok s' => .ok s' | .error e => .error (no, e)) := by
  rw [List.take_add_one, hk, Option.toList_some, stmts_app, h]
  simp only [stmts]
  cases stmt gl s l <;> rfl
theorem stmts_bad {gl : Gl} {L : List (Int × List B)} {k : Nat} {no e : Int} {l : List B} {s : PS} (h : stmts gl ps0 (L.take k) = .ok s) (hk : L[k]? = some (no, l)) (he : stmt gl s l = .error e) : stmts gl ps0 L = .error (no, e) := by
  have h1 := stmts_take h hk
  rw [he] at h1
  conv => lhs; rw [← List.take_append_drop (k + 1) L]
  rw [stmts_app, h1]
end Go.Proofs.YtkijckccfookeaaGreatDoor
/- parse: a rule: its parts' sets. -/
namespace Go.Proofs.YtkijckccfookeaaGreatDoor
open Go.RowKit
attribute [-go_sem] Builtin.append_

abbrev tRw : TypeId := 119
abbrev tWr : TypeId := 211
/-- the sets that have been read so far -/
def WrSt (w1 : World) (rows : List (List P3)) (vs : List Value) (k : Nat) (wr : World) : Prop :=
  ∃ hs : List Value, hs.length = 3 ∧ Bk wr w1.heap.size tArr vs.toArray ∧ Bk wr (w1.heap.size + 1) tWr hs.toArray ∧ RowsIn tWd wr vs rows ∧ Below w1.heap.size w1 wr ∧
    ∀ (j : Nat) (r : List P3), j < k → rows[j]? = some r → ∃ S A c hj, setsL r = some S ∧ hs[j]? = some (.slice A S.length c) ∧ RdT wr tRw A S.length 1 hj ∧ RowsIn tWd wr hj S
theorem rowsIn_far {w : World} {hs : List Value} {rows : List (List P3)} (h : RowsIn tWd w hs rows) {g : Nat} {t : TypeId} {cs : Array Value} (hb : Bk w g t cs) (hne : tWd ≠ t) (i : Nat) (u : Value) : RowsIn tWd (w.setCell ⟨g, i, none⟩ u) hs rows :=
  h.kept fun _ _ _ hr => hr.farBk hb hne i u
theorem WrSt.start {w1 : World} {rows : List (List P3)} {a b c d : Value} (hin : RowsIn tWd w1 [a, b, c, d] rows) : WrSt w1 rows [a, b, c, d] 0 ((w1.alloc (.cells #[a, b, c, d] tArr)).alloc (.cells #[.slice none 0 0, .slice none 0 0, .slice none 0 0] tWr)) := by
  have h1 : Bk (w1.alloc (.cells #[a, b, c, d] tArr)) w1.heap.size tArr #[a, b, c, d] := Bk.new _ _ _
  refine ⟨[.slice none 0 0, .slice none 0 0, .slice none 0 0], rfl, h1.alloc _, ?_, (hin.alloc _).alloc _, ((Below.refl _ _).alloc (Nat.le_refl _) _).alloc (by simp) _, fun j r h => by omega⟩
  have := Bk.new (w1.alloc (.cells #[a, b, c, d] tArr)) tWr #[.slice none 0 0, .slice none 0 0, .slice none 0 0]
  simpa using this
theorem WrSt.next {w1 wr w2 : World} {rows : List (List P3)} {vs : List Value} {k : Nat} {r : List P3} {S : List (List P3)} {v : Value} (h : WrSt w1 rows vs k wr) (hk : k < 3) (hr : rows[k]? = some r) (hS : setsL r = some S) (hret : RetRows tWd tRw wr w2 S v) : WrSt w1 rows vs (k + 1) (w2.setCell ⟨w1.heap.size + 1, k, none⟩ v) := by
  obtain ⟨hs, l3, b1, b2, hin, hb, hj⟩ := h
  obtain ⟨A, c, h9, rfl, q1, q2, q3⟩ := hret
  have b1' := b1.keep (q3.block _ b1.lt)
  have b2' := b2.keep (q3.block _ b2.lt)
  refine ⟨hs.set k (.slice A S.length c), by simp [l3], Bk.far b1' (by simp) _, ?_, rowsIn_far (hin.below q3) b2' (by decide) _ _, (hb.trans (q3.mono hb.size)).setCell (by simp) _, fun j r' hlt hr' => ?_⟩
  · have := b2'.set k (.slice A S.length c)
    simpa using this
  · by_cases hjk : j = k
    · subst hjk
      rw [hr] at hr'
      cases hr'
      exact ⟨S, A, c, h9, hS, by rw [List.getElem?_set_self (by omega)], q1.farBk b2' (by decide) _ _, rowsIn_far q2 b2' (by decide) _ _⟩
    · obtain ⟨S', A', c', hj', e1, e2, e3, e4⟩ := hj j r' (by omega) hr'
      exact ⟨S', A', c', hj', e1, by rw [List.getElem?_set_ne (fun e => hjk e.symm)]; exact e2, (e3.below q3).farBk b2' (by decide) _ _, rowsIn_far (e4.below q3) b2' (by decide) _ _⟩
theorem rRule_none (gl : Gl) (s : PS) {l : List B} {init : List Lookup} {lk : Lookup} (hs : s.f.lookups = init ++ [lk]) (h : partsT l = none) : rRule gl s l = .error 22 := by
  unfold rRule
  rw [hs, List.getLast?_append]
  simp only [List.getLast?_singleton, Option.some_or]
  rw [h]
theorem rRule_sets (gl : Gl) (s : PS) {l : List B} {init : List Lookup} {lk : Lookup} (hs : s.f.lookups = init ++ [lk]) {p0 p1 p2 p3 : List B} (h : partsT l = some [p0, p1, p2, p3]) (hn : setsT p0 = none ∨ setsT p1 = none ∨ setsT p2 = none) : rRule gl s l = .error 22 := by
  unfold rRule
  rw [hs, List.getLast?_append]
  simp only [List.getLast?_singleton, Option.some_or]
  rw [h]
  simp only
  rcases hn with h | h | h
  · rw [h]
  · rw [h]
    cases setsT p0 <;> rfl
  · rw [h]
    cases setsT p0 <;> cases setsT p1 <;> rfl
/-- the last lookup, grown -/
theorem onLastL_eq (s : PS) (h : Lookup → Lookup) {init : List Lookup} {lk : Lookup} (hs : s.f.lookups = init ++ [lk]) : onLastL s h = { s with f := { s.f with lookups := init ++ [h lk] } } := by
  unfold onLastL
  rw [hs, List.dropLast_concat, List.getLast?_append]
  rfl
end Go.Proofs.YtkijckccfookeaaGreatDoor
/- Plain Lean: a rule, in the order of the code. -/
namespace Go.Proofs.YtkijckccfookeaaGreatDoor

theorem rows_er (gl : Gl) (cls : List (B × List Int)) (er : Int) (he : er ≠ 0) (l : List (List B)) : (rowsRun gl cls er l).1 = er := by
  suffices h : ∀ acc, (l.foldl (fun q x => ((setRun gl cls q.1 [] x).1, q.2 ++ [(setRun gl cls q.1 [] x).2])) ((er, acc) : Int × List (List Int))).1 = er from h []
  induction l with
  | nil => intro acc; rfl
  | cons x r ih =>
    intro acc
    rw [List.foldl_cons]
    simp only
    rw [run_er gl cls er he]
    exact ih _
theorem rows_run (gl : Gl) (cls : List (B × List Int)) (l : List (List B)) : (∃ e, rowsGo gl cls l = .error e ∧ e ≠ 0 ∧ (rowsRun gl cls 0 l).1 = e) ∨ (∃ xs, rowsGo gl cls l = .ok xs ∧ rowsRun gl cls 0 l = (0, xs)) := by
  suffices h : ∀ acc : List (List Int), (∃ e, rowsGo gl cls l = .error e ∧ e ≠ 0 ∧ (l.foldl (fun q x => ((setRun gl cls q.1 [] x).1, q.2 ++ [(setRun gl cls q.1 [] x).2])) ((0, acc) : Int × List (List Int))).1 = e) ∨ (∃ xs, rowsGo gl cls l = .ok xs ∧ l.foldl (fun q x => ((setRun gl cls q.1 [] x).1, q.2 ++ [(setRun gl cls q.1 [] x).2])) ((0, acc) : Int × List (List Int)) = (0, acc ++ xs)) from h []
  induction l with
  | nil => intro acc; exact .inr ⟨[], rfl, by simp⟩
  | cons x r ih =>
    intro acc
    rw [List.foldl_cons, rowsGo]
    simp only
    rcases run_setGo gl cls [] x (by simp) with ⟨e, h1, h2, h3⟩ | ⟨g, h1, h2, -⟩
    · rw [h1, h3]
      refine .inl ⟨e, rfl, h2, ?_⟩
      suffices h : ∀ acc, (r.foldl (fun q x => ((setRun gl cls q.1 [] x).1, q.2 ++ [(setRun gl cls q.1 [] x).2])) ((e, acc) : Int × List (List Int))).1 = e from h _
      intro acc
      clear ih
      induction r generalizing acc with
      | nil => rfl
      | cons y r ih =>
        rw [List.foldl_cons]
        simp only
        rw [run_er gl cls e h2]
        exact ih _
    · rw [h1, h2]
      simp only
      rcases ih (acc ++ [g]) with ⟨e, k1, k2, k3⟩ | ⟨xs, k1, k2⟩
      · rw [k1]
        exact .inl ⟨e, rfl, k2, k3⟩
      · rw [k1]
        exact .inr ⟨g :: xs, rfl, by rw [k2]; simp⟩
/-- the error behind the words at the end -/
def endErr (gl : Gl) (kind e : Int) (p3 : List B) : Int := if kind = 1 ∨ kind = 2 ∨ kind = 3 ∨ kind = 5 then eGls gl e p3 else if kind = 4 then p3.foldl eCall e else if kind = 6 then eNums e p3 else e
theorem eGls_er (gl : Gl) (e : Int) (he : e ≠ 0) (l : List B) : eGls gl e l = e := by
  induction l with
  | nil => rfl
  | cons x r ih =>
    show (x :: r).foldl (eGl gl) e = e
    rw [List.foldl_cons]
    have : eGl gl e x = e := by unfold eGl; rw [if_neg (fun h => he h.1)]
    rw [this]
    exact ih
theorem eNum_er (e : Int) (he : e ≠ 0) (t : B) : eNum e t = e := by unfold eNum; rw [if_neg (fun h => he h.1)]
theorem eNums_er (e : Int) (he : e ≠ 0) (l : List B) : eNums e l = e := by
  induction l with
  | nil => rfl
  | cons x r ih =>
    show (x :: r).foldl eNum e = e
    rw [List.foldl_cons, eNum_er e he]
    exact ih
theorem eCalls_er (e : Int) (he : e ≠ 0) (l : List B) : l.foldl eCall e = e := by
  induction l with
  | nil => rfl
  | cons x r ih =>
    rw [List.foldl_cons]
    have : eCall e x = e := by unfold eCall; rw [eNum_er e he, eNum_er e he]
    rw [this]
    exact ih
theorem end_er (gl : Gl) (kind e : Int) (he : e ≠ 0) (p3 : List B) : endErr gl kind e p3 = e := by
  unfold endErr
  split
  · exact eGls_er gl e he p3
  · split
    · exact eCalls_er e he p3
    · split
      · exact eNums_er e he p3
      · rfl
/-- the rule as it is laid, ahead of the sorting -/
def ruleOf (gl : Gl) (kind : Int) (b i a : List (List Int)) (p3 : List B) : Rule :=
  ⟨b.map setOf, i.map setOf, a.map setOf, if kind = 1 ∨ kind = 2 ∨ kind = 3 ∨ kind = 5 then p3.map (vGl gl) else [], if kind = 4 then p3.map vCall else [], if kind = 6 then numV (p3.headD []) else 0⟩
def ruleEnd (s : PS) (kind : Int) (i : List (List Int)) (r : Rule) : Ans :=
  if kind = 1 ∨ kind = 5 then (match sortOut (i.headD []) r.out with
    | .error e => .error e
    | .ok o => .ok (onLastL s fun lk => { lk with rules := lk.rules ++ [{ r with out := o }] }))
  else .ok (onLastL s fun lk => { lk with rules := lk.rules ++ [r] })
theorem rRule_run (gl : Gl) (s : PS) {l : List B} {init : List Lookup} {lk : Lookup} (hs : s.f.lookups = init ++ [lk]) {p0 p1 p2 p3 : List B} (h : partsT l = some [p0, p1, p2, p3]) {T0 T1 T2 : List (List B)} (h0 : setsT p0 = some T0) (h1 : setsT p1 = some T1) (h2 : setsT p2 = some T2) (hok : ¬ ((lk.kind = 1 ∨ lk.kind = 5) ∧ T1.length ≠ 1)) (hok2 : areOut lk.kind p3 = true) :
    let q0 := rowsRun gl s.cls 0 T0
    let q1 := rowsRun gl s.cls q0.1 T1
    let q2 := rowsRun gl s.cls q1.1 T2
    let e4 := endErr gl lk.kind q2.1 p3
    rRule gl s l = if e4 ≠ 0 then .error e4 else ruleEnd s lk.kind q1.2 (ruleOf gl lk.kind q0.2 q1.2 q2.2 p3) := by
  intro q0 q1 q2 e4
  unfold rRule
  rw [hs, List.getLast?_append]
  simp only [List.getLast?_singleton, Option.some_or]
  rw [h]
  simp only
  rw [h0, h1, h2]
  simp only
  rw [if_neg hok, if_neg (by rw [hok2]; simp)]
  rcases rows_run gl s.cls T0 with ⟨e, k1, k2, k3⟩ | ⟨xs, k1, k3⟩
  · have a1 : q1.1 = e := by show (rowsRun gl s.cls (rowsRun gl s.cls 0 T0).1 T1).1 = e; rw [k3, rows_er _ _ _ k2]
    have a2 : q2.1 = e := by show (rowsRun gl s.cls q1.1 T2).1 = e; rw [a1, rows_er _ _ _ k2]
    have a3 : e4 = e := by show endErr gl lk.kind q2.1 p3 = e; rw [a2, end_er _ _ _ k2]
    rw [k1, a3, if_pos k2]
  · have b0 : q0 = (0, xs) := k3
    have b1 : q1 = rowsRun gl s.cls 0 T1 := by show rowsRun gl s.cls q0.1 T1 = _; rw [b0]
    rw [k1]
    simp only
    rcases rows_run gl s.cls T1 with ⟨e, m1, m2, m3⟩ | ⟨ys, m1, m3⟩
    · have a1 : q1.1 = e := by rw [b1, m3]
      have a2 : q2.1 = e := by show (rowsRun gl s.cls q1.1 T2).1 = e; rw [a1, rows_er _ _ _ m2]
      have a3 : e4 = e := by show endErr gl lk.kind q2.1 p3 = e; rw [a2, end_er _ _ _ m2]
      rw [m1, a3, if_pos m2]
    · have c1 : q1 = (0, ys) := by rw [b1, m3]
      have c2 : q2 = rowsRun gl s.cls 0 T2 := by show rowsRun gl s.cls q1.1 T2 = _; rw [c1]
      rw [m1]
      simp only
      rcases rows_run gl s.cls T2 with ⟨e, n1, n2, n3⟩ | ⟨zs, n1, n3⟩
      · have a2 : q2.1 = e := by rw [c2, n3]
        have a3 : e4 = e := by show endErr gl lk.kind q2.1 p3 = e; rw [a2, end_er _ _ _ n2]
        rw [n1, a3, if_pos n2]
      · have c3 : q2 = (0, zs) := by rw [c2, n3]
        rw [n1]
        have he4 : e4 = endErr gl lk.kind 0 p3 := by show endErr gl lk.kind q2.1 p3 = _; rw [c3]
        rw [he4, b0, c1, c3]
        rfl
end Go.Proofs.YtkijckccfookeaaGreatDoor
/- parse: how long a rule's rows are; rows that stand while the reader is written. -/
namespace Go.Proofs.YtkijckccfookeaaGreatDoor
open Go.RowKit

theorem rowsRun_all (gl : Gl) (cls : List (B × List Int)) (Q : List Int → Prop) (hQ : ∀ er l, Q (setRun gl cls er [] l).2) (er : Int) (l : List (List B)) : ∀ r ∈ (rowsRun gl cls er l).2, Q r := by
  suffices h : ∀ q : Int × List (List Int), (∀ r ∈ q.2, Q r) → ∀ r ∈ (l.foldl (fun q x => ((setRun gl cls q.1 [] x).1, q.2 ++ [(setRun gl cls q.1 [] x).2])) q).2, Q r from h (er, []) (fun r hr => by simp at hr)
  induction l with
  | nil => intro q hq; exact hq
  | cons x r ih =>
    intro q hq
    rw [List.foldl_cons]
    refine ih _ fun y hy => ?_
    rcases List.mem_append.1 hy with g | g
    · exact hq y g
    · simp only [List.mem_singleton] at g
      subst g
      exact hQ _ _
theorem run_len (gl : Gl) (cls : List (B × List Int)) (hc : ∀ t l, cls.lookup t = some l → l.length ≤ 2000) (er : Int) (acc : List Int) (ha : acc.length ≤ 1000) (l : List B) : (setRun gl cls er acc l).2.length ≤ 3001 := by
  have hw : ∀ er acc t, acc.length ≤ 1000 → (setWd gl cls er acc t).2.length ≤ 3001 := by
    intro er acc t ha
    unfold setWd
    split
    · split
      · rename_i c hcl
        have := hc _ _ hcl
        show (acc ++ c).length ≤ _
        rw [List.length_append]
        omega
      · show acc.length ≤ _
        omega
    · show (acc ++ [_]).length ≤ _
      rw [List.length_append, List.length_singleton]
      omega
  induction l generalizing er acc with
  | nil => exact Nat.le_trans ha (by omega)
  | cons t r ih =>
    rw [setRun]
    split
    · exact hw er acc t ha
    · split
      · exact hw er acc t ha
      · rename_i h1 h2
        exact ih _ _ (by omega)
theorem PSt.clsL {w : World} {Bd p gm cm : Nat} {gl : Gl} {s : PS} {rv : Rows} {K : Nat} (h : PSt w Bd p gm cm gl s rv K) : ∀ t l, s.cls.lookup t = some l → l.length ≤ 2000 := by
  intro t l hl
  obtain ⟨f, h1, h2⟩ := h.cls
  rcases h2 t with ⟨g, _⟩ | ⟨l', A, c, e1, e2, e3, e4⟩
  · rw [g] at hl; cases hl
  · rw [e1] at hl
    cases hl
    exact e4
/-- rows that stand: read, below what comes -/
structure RowsRd (base : Nat) (A : Option Addr) (n : Nat) (hs : List Value) (xs : List (List Int)) (w : World) : Prop where
  rd : RdT w 22 A n 1 hs
  fl : Fl RowR 1 w (IB base w) hs xs
theorem RowsRd.mk' {w : World} {b2 base : Nat} {A : Option Addr} {n c : Nat} {hs : List Value} {xs : List (List Int)} (ho : w.ownsRow b2 22 1 (.slice A n c) n hs) (hf : Fl RowR 1 w (IB base w) hs xs) : RowsRd base A n hs xs w := ⟨own_rdT ho, hf⟩
theorem RowsRd.reader {base : Nat} {A : Option Addr} {n : Nat} {hs : List Value} {xs : List (List Int)} {w w' : World} {rb p : Nat} {er : Int} (h : RowsRd base A n hs xs w) (hr : Rdr w rb p er) (hg : w.grownBy w' (some rb)) : RowsRd base A n hs xs w' :=
  ⟨h.rd.grown hg (fun g e => by cases e; exact ⟨_, _, hr, by decide⟩), h.fl.ib hg (fun g e => by cases e; exact ⟨_, _, hr, by decide⟩)⟩
theorem RowsRd.below {base : Nat} {A : Option Addr} {n : Nat} {hs : List Value} {xs : List (List Int)} {w w' : World} (h : RowsRd base A n hs xs w) (hb : Below w.heap.size w w') : RowsRd base A n hs xs w' :=
  ⟨h.rd.below hb, h.fl.ib (only_of_below hb none) (fun g e => by cases e)⟩
theorem RowsRd.sets {base : Nat} {A : Option Addr} {n c : Nat} {hs : List Value} {xs : List (List Int)} {w : World} (h : RowsRd base A n hs xs w) (hn : n ≤ 1000000000) (hl : ∀ r ∈ xs, r.length ≤ 1000000000) (hI : ∀ r ∈ xs, ∀ x ∈ r, I64 x) :
    Calls Tryz.prog 137 #[.slice A n c] w fun e w' => ∃ v, e = .returned v ∧ SetsSt w n (xs.map setOf) v w' :=
  setsOf_ok w A n c xs hs h.rd h.fl (fun b hb => by obtain ⟨-, cur, hk⟩ := hb; exact hk.lt) hn hl hI
/-- .. a first row of them -/
theorem RowsRd.first {base : Nat} {A : Option Addr} {n : Nat} {hs : List Value} {x : List Int} {xs : List (List Int)} {w : World} (h : RowsRd base A n hs (x :: xs) w) (hn : 0 < n) : ∃ b o A' c', A = some ⟨b, o, none⟩ ∧ b < w.heap.size ∧ w.cell? ⟨b, o, none⟩ = some (.slice A' x.length c') ∧ Rd w w.heap.size A' x.length 1 (cIs x) := by
  obtain ⟨b, o, cur, e, hb, hc⟩ := h.rd.2 hn
  obtain ⟨A', c', h0, hsl⟩ := row_get h.fl (k := 0) (r := x) rfl
  exact ⟨b, o, A', c', e, hb.lt, (hb.cell o).trans (hc 0 _ h0), sl_rd hsl (fun b hb => by obtain ⟨-, cur, hk⟩ := hb; exact hk.lt)⟩
/-- blocks of ints behind all that the parser writes on are none of its rows' -/
theorem PSt.ib {w w2 : World} {Bd p gm cm : Nat} {gl : Gl} {s : PS} {rv : Rows} {K : Nat} (h : PSt w Bd p gm cm gl s rv K) {base : Nat} (hb : w.heap.size ≤ base) : ∀ g, IB base w2 g → Fz w2 rv g := by
  rintro g ⟨h1, cur, hk⟩
  refine ⟨cur, _, hk, by decide, fun j hj e' => ?_⟩
  have := ((h.live.own j hj).lt g e').2
  omega
end Go.Proofs.YtkijckccfookeaaGreatDoor
/- parse: the words at a rule's end, of any kind. -/
namespace Go.Proofs.YtkijckccfookeaaGreatDoor
open Go.RowKit

theorem out_ok (w : World) (C rb p gm : Nat) (gl : Gl) (kind err : Int) (v0 v1 v2 : Value) (A : Option Addr) (n c : Nat) (ws : List P3) (hC : Bk w C tRule #[v0, v1, v2, .slice none 0 0, .slice none 0 0, .int .i64 0]) (hR : Rdr w rb p err) (hG : GmAt w p gm gl)
    (hp : p < w.heap.size) (p1 : p ≠ rb) (p2 : p ≠ C) (p3 : gm ≠ rb) (p4 : gm ≠ C) (hw : RdT w tWd A n 3 (c3s ws)) (hl : ∀ x ∈ ws, x.2.2.length ≤ 1000000) (hn : n ≤ 1000000000) (hok : areOut kind (txts ws) = true) (b i a : List (List Int)) :
    Calls Tryz.prog 138 #[.pointer (some ⟨rb, 0, none⟩), .int .i64 kind, .slice A n c, .pointer (some ⟨C, 0, none⟩)] w fun e w' => e = .returned (.tuple #[]) ∧ OutR w C rb p v0 v1 v2 (endErr gl kind err (txts ws)) (ruleOf gl kind b i a (txts ws)).out (ruleOf gl kind b i a (txts ws)).calls (ruleOf gl kind b i a (txts ws)).x w' := by
  unfold ruleOf endErr
  simp only
  by_cases h1 : kind = 1 ∨ kind = 2 ∨ kind = 3 ∨ kind = 5
  · rw [if_pos h1, if_pos h1, if_neg (by omega), if_neg (by omega)]
    exact out_plain w C rb p gm gl kind err v0 v1 v2 A n c ws h1 hC hR hG hp p1 p2 p3 p4 hw hn
  · rw [if_neg h1, if_neg h1]
    by_cases h4 : kind = 4
    · rw [if_pos h4, if_pos h4, if_neg (by omega)]
      subst h4
      exact out_chain w C rb p err v0 v1 v2 A n c ws hC hR hw hl hn
    · rw [if_neg h4, if_neg h4]
      by_cases h6 : kind = 6
      · rw [if_pos h6, if_pos h6]
        unfold areOut at hok
        rw [if_neg h4, if_pos h6] at hok
        obtain ⟨t, ht⟩ : ∃ t, txts ws = [t] := by
          match txts ws, hok with
          | [t], _ => exact ⟨t, rfl⟩
        subst h6
        rw [ht]
        exact out_pair w C rb p err v0 v1 v2 A n c ws hC hR hw hl ht
      · rw [if_neg h6, if_neg h6]
        exact out_none w C rb p kind err v0 v1 v2 A n c hC hR (by omega)
end Go.Proofs.YtkijckccfookeaaGreatDoor
/- parse: a rule in memory. -/
namespace Go.Proofs.YtkijckccfookeaaGreatDoor
open Go.RowKit

theorem own_two {w w' : World} {a b : Nat} (ht : Two w w' a b) {ta tb e : TypeId} {ca cb : Array Value} (ha : Bk w a ta ca) (hb : Bk w b tb cb) (n1 : e ≠ ta) (n2 : e ≠ tb) {base size n : Nat} {v : Value} {xs : List Value} (h : w.ownsRow base e size v n xs) : w'.ownsRow base e size v n xs := by
  refine ⟨h.1, ?_⟩
  rcases h.2 with h0 | ⟨g, cap, cur, rfl, hg, hh, rest⟩
  · exact .inl h0
  · refine .inr ⟨g, cap, cur, rfl, hg, (ht.block g (Array.getElem?_eq_some_iff.1 hh).1 (fun e' => ?_) (fun e' => ?_)).trans hh, rest⟩
    · subst e'; exact n1 (bk_one hh ha).1
    · subst e'; exact n2 (bk_one hh hb).1
theorem ib_two {w w' : World} {a b : Nat} (ht : Two w w' a b) {ta tb : TypeId} {ca cb : Array Value} (ha : Bk w a ta ca) (hb : Bk w b tb cb) (n1 : 3 ≠ ta) (n2 : 3 ≠ tb) {base : Nat} {hs : List Value} {xs : List (List Int)} (h : Fl RowR 1 w (IB base w) hs xs) : Fl RowR 1 w' (IB base w') hs xs := by
  have hsame : Same (IB base w) w w' := fun g ⟨_, cur, hk⟩ => ht.block g hk.lt (fun e' => by subst e'; exact n1 (bk_one hk ha).1) (fun e' => by subst e'; exact n2 (bk_one hk hb).1)
  exact (h.keep RowR.ok hsame).mono RowR.ok fun g hg => ⟨hg.1, by obtain ⟨cur, hk⟩ := hg.2; exact ⟨cur, hk.keep (hsame g hg)⟩⟩
section
variable {w W : World} {Bd p gm cm : Nat} {gl : Gl} {s : PS} {rv : Rows} {K : Nat}
theorem rows_sl (h : PSt w Bd p gm cm gl s rv K) {A : Option Addr} {n c b2 base : Nat} {hs : List Value} {xs : List (List Int)} (ho : W.ownsRow b2 22 1 (.slice A n c) n hs) (hf : Fl RowR 1 W (IB base W) hs xs) (hb : w.heap.size ≤ b2) (hb2 : w.heap.size ≤ base) : Sl RowR 1 W (Fz W rv) A xs :=
  Sl.of_own' ho (hf.mono RowR.ok (h.ib hb2)) (h.fresh ho hb (by decide)) (by decide)
theorem call_fl (W : World) (S : Bs) (l : List Call) (h : ∀ x ∈ l, I64 x.at' ∧ I64 x.lookup) : Fl CallR 2 W S (callC l) l := by
  induction l with
  | nil => exact Fl.nil
  | cons x r ih =>
    obtain ⟨h1, h2⟩ := h x (by simp)
    exact (Fl.one (R := CallR) ⟨rfl, h1, h2⟩ rfl).append (ih (fun y hy => h y (by simp [hy])))
theorem rule_rel (h : PSt w Bd p gm cm gl s rv K) {A0 A1 A2 Ao Ac : Option Addr} {c0 c1 c2 co cc b0 b1 b2 bo bc e0 e1 e2 : Nat} {h0 h1 h2 : List Value} {s0 s1 s2 : List (List Int)} {out : List Int} {calls : List Call} {x : Int}
    (o0 : W.ownsRow b0 22 1 (.slice A0 s0.length c0) s0.length h0) (f0 : Fl RowR 1 W (IB e0 W) h0 s0) (o1 : W.ownsRow b1 22 1 (.slice A1 s1.length c1) s1.length h1) (f1 : Fl RowR 1 W (IB e1 W) h1 s1) (o2 : W.ownsRow b2 22 1 (.slice A2 s2.length c2) s2.length h2) (f2 : Fl RowR 1 W (IB e2 W) h2 s2)
    (oo : W.ownsRow bo 3 1 (.slice Ao out.length co) out.length (cIs out)) (oc : W.ownsRow bc 95 2 (.slice Ac calls.length cc) calls.length (callC calls)) (io : ∀ y ∈ out, I64 y) (ic : ∀ y ∈ calls, I64 y.at' ∧ I64 y.lookup) (ix : I64 x)
    (l0 : w.heap.size ≤ b0) (l1 : w.heap.size ≤ b1) (l2 : w.heap.size ≤ b2) (lo : w.heap.size ≤ bo) (lc : w.heap.size ≤ bc) (m0 : w.heap.size ≤ e0) (m1 : w.heap.size ≤ e1) (m2 : w.heap.size ≤ e2) :
    RuleR W (Fz W rv) [.slice A0 s0.length c0, .slice A1 s1.length c1, .slice A2 s2.length c2, .slice Ao out.length co, .slice Ac calls.length cc, .int .i64 x] ⟨s0, s1, s2, out, calls, x⟩ :=
  ⟨A0, c0, A1, c1, A2, c2, Ao, co, Ac, cc, rfl, ix, rows_sl h o0 f0 l0 m0, rows_sl h o1 f1 l1 m1, rows_sl h o2 f2 l2 m2, Sl.of_own' oo (int_fl _ _ _ io) (h.fresh oo lo (by decide)) (by decide), Sl.of_own' oc (call_fl _ _ _ ic) (h.fresh oc lc (by decide)) (by decide)⟩
end
end Go.Proofs.YtkijckccfookeaaGreatDoor
/- A region that draws its order, and whose callees may make new blocks: ONE walk, in the text's order, in a class of worlds. -/
namespace Go.Proofs.YtkijckccfookeaaGreatDoor
open Go.RowKit

/-- a world of a class -/
structure WIn (S : World → Prop) where
  w : World
  ok : S w
theorem wp_region_in {P : Program} {id : Nat} {Q : Exit → Act → World → Prop} {a : Act} {w : World} {l : List Oper} (S : World → Prop) (hm : P.follows .mixedOrders = true) (hB : Region.lexB .any l.toArray = true) (hS : S { w with drawn := w.drawn + 1 })
    (h : wpQuiet P l.toArray (fun w' => ∃ x : WIn S, w' = x.w) (fun a' => ∀ w', (∃ x : WIn S, w' = x.w) → Q .normal a' w') l a) : (Code.region id l.toArray true).wp P Q a w :=
  wp_region_quiet (C := fun w' => ∃ x : WIn S, w' = x.w) hm hB ⟨⟨_, hS⟩, rfl⟩ h
end Go.Proofs.YtkijckccfookeaaGreatDoor
