/- parse.Font: the contract. -/
import Derived.Test.YtkijckccfookeaaGreatDoorM32
import Derived.Test.YtkijckccfookeaaGreatDoorM33
import Derived.Test.YtkijckccfookeaaGreatDoorWLines
import Derived.Laws.ResultCell
import Derived.Laws.Rows
import Derived.Laws.Tables
import Derived.Laws.CopyRow
import Derived.Laws.CopyOwn
namespace Go.Proofs.YtkijckccfookeaaGreatDoor
open Go.RowKit
attribute [-go_sem] storeVar

abbrev tFnt : TypeId := 32
abbrev zeroF : Array Value := #[.int .i64 0, .slice none 0 0, .slice none 0 0, .slice none 0 0, .slice none 0 0, .slice none 0 0, .slice none 0 0, .slice none 0 0, .slice none 0 0]
/-- what parse.Font answers -/
def FontPost (w : World) (r : Except (Int × Int) Fnt) (e : Ending) (w' : World) : Prop :=
  Below w.heap.size w w' ∧ match r with
    | .ok f => ∃ fc : List Value, e = .returned (.tuple #[.agg fc.toArray, .int .i64 0, .int .i64 0]) ∧ FntR w' (Dt w') fc f
    | .error (n, c) => e = .returned (.tuple #[.agg zeroF, .int .i64 n, .int .i64 c])
theorem infoFnt : (Tryz.prog.info? tFnt).map (·.size) = some 9 := by kernel_rfl
theorem results_cell2 {fn : Func} {p u v : Tmp} {ty : TypeId} (h : fn.results = #[.cell p ty, .tmp u, .tmp v]) (tmps : Array Value) (P : Program) (w : World) :
    (results fn tmps).run P w = ((asAddr (tmps.getD p undef)).run P w).andThen fun a w₁ => ((loadVar ty a).run P w₁).andThen fun x w₂ => .ok (.tuple #[x, tmps.getD u undef, tmps.getD v undef]) w₂ := by
  simp only [results, h]
  simp [Sem.run_bind, Result.andThen]
theorem results_font {W : World} {g : Nat} {cs : Array Value} {v u : Value} {tmps : Array Value} (hb : Bk W g tFnt cs) (hsz : cs.size = 9) (h2 : tmps.getD 2 undef = .pointer (some ⟨g, 0, none⟩)) (h3 : tmps.getD 3 undef = v) (h4 : tmps.getD 4 undef = u) : (results Tryz.f19 tmps).run Tryz.prog W = .ok (.tuple #[.agg cs, v, u]) W := by
  have := run_loadVar_row (P := Tryz.prog) W g tFnt tFnt cs (0, 0) _ hb Tryz.underlying32 rfl (by rw [infoFnt, hsz])
  rw [results_cell2 (fn := Tryz.f19) (p := 2) (u := 3) (v := 4) (ty := tFnt) rfl, h2, h3, h4]
  simp [asAddr, Result.andThen, this]
theorem zeroStmt (w : World) : (zeroValue 121).run Tryz.prog w = .ok Value.nilFunc w := by kernel_rfl
theorem mkMapC (w : World) : (Instr.makeMap 114 none).run Tryz.prog w = .ok (.map (some w.heap.size)) (w.alloc (.map #[] 0)) := by
  simp [Instr.makeMap, Result.andThen, newObj, go_sem]
  try rfl
/-- between two statements -/
structure FSt (w5 : World) (Bd p gm cm : Nat) (gl : Gl) (L : List (Int × List B)) (rows : List (List P3)) (k : Nat) (s : PS) (rv : Rows) (wr : World) : Prop where
  st : PSt wr Bd p gm cm gl s rv (tot (rows.take k))
  kq : KQ cm w5 wr
  low : Below Bd w5 wr
  ok : stmts gl ps0 (L.take k) = .ok s
theorem KQ.rows {cm : Nat} {w w' : World} (h : KQ cm w w') {hs : List Value} {rows : List (List P3)} (hr : RowsIn tWd w hs rows) : RowsIn tWd w' hs rows := hr.kept fun _ _ _ hr => h.rdT hr (by decide) (by decide)
theorem KQ.mapF {κ : Type} {E : Emb κ} {cm : Nat} {w w' : World} {b : Nat} {f : κ → Option Value} (h : KQ cm w w') (hm : MapF E w b f) (hne : b ≠ cm) : MapF E w' b f := by
  obtain ⟨es, clock, kv, h1, h2⟩ := hm
  exact ⟨es, clock, kv, h.same b _ h1 hne, h2⟩
theorem KQ.boxes {cm : Nat} {w w' : World} (h : KQ cm w w') {t : TypeId} {p F a b : Nat} (hb : Boxes2 w t p F a b) (h1 : dataT t = false) (h2 : t ≠ tPar) : Boxes2 w' t p F a b := ⟨h.bk hb.par (by decide) (by decide), h.bk hb.fn h1 h2⟩
theorem row_at3 {w : World} {A : Option Addr} {n k : Nat} {hs : List Value} {rows : List (List P3)} (hr : RdT w 119 A n 1 hs) (hin : RowsIn tWd w hs rows) (hk : k < n) :
    ∃ b o r Ar kr cr, A = some ⟨b, o, none⟩ ∧ Hid (rows[k]? = some r) ∧ b < w.heap.size ∧ w.cell? ⟨b, o + k, none⟩ = some (.slice Ar kr cr) ∧ RdT w tWd Ar kr 3 (c3s r) ∧ kr = r.length ∧ kr ≤ cr := row_at2 hr hin (Below.refl _ _) hk
theorem TabOk.kq {cm : Nat} {w w' : World} {p M : Nat} {f : B → Option Value} {aContour bContour aPart bPart aAnchor bAnchor aDelta bDelta aHint bHint aRule bRule : Nat} (h : TabOk w p M f aContour bContour aPart bPart aAnchor bAnchor aDelta bDelta aHint bHint aRule bRule) (k : KQ cm w w') (hne : M ≠ cm) : TabOk w' p M f aContour bContour aPart bPart aAnchor bAnchor aDelta bDelta aHint bHint aRule bRule :=
  { h with map := k.mapF h.map hne, xContour := k.boxes h.xContour (by decide) (by decide), xPart := k.boxes h.xPart (by decide) (by decide), xAnchor := k.boxes h.xAnchor (by decide) (by decide), xDelta := k.boxes h.xDelta (by decide) (by decide), xHint := k.boxes h.xHint (by decide) (by decide), xRule := k.boxes h.xRule (by decide) (by decide) }

theorem st9_grown (W : World) (g : Nat) (a b c d e f h i j : Value) : W.grownBy (((((((((W.setCell ⟨g, 0, none⟩ a).setCell ⟨g, 1, none⟩ b).setCell ⟨g, 2, none⟩ c).setCell ⟨g, 3, none⟩ d).setCell ⟨g, 4, none⟩ e).setCell ⟨g, 5, none⟩ f).setCell ⟨g, 6, none⟩ h).setCell ⟨g, 7, none⟩ i).setCell ⟨g, 8, none⟩ j) (some g) :=
  grown_tr (grown_tr (grown_tr (grown_tr (grown_tr (grown_tr (grown_tr (grown_tr (grown_set _ _ _) (grown_set _ _ _)) (grown_set _ _ _)) (grown_set _ _ _)) (grown_set _ _ _)) (grown_set _ _ _)) (grown_set _ _ _)) (grown_set _ _ _)) (grown_set _ _ _)
theorem st9_bk {W : World} {g : Nat} {t : TypeId} (hb : Bk W g t zeroF) (a b c d e f h i j : Value) : Bk (((((((((W.setCell ⟨g, 0, none⟩ a).setCell ⟨g, 1, none⟩ b).setCell ⟨g, 2, none⟩ c).setCell ⟨g, 3, none⟩ d).setCell ⟨g, 4, none⟩ e).setCell ⟨g, 5, none⟩ f).setCell ⟨g, 6, none⟩ h).setCell ⟨g, 7, none⟩ i).setCell ⟨g, 8, none⟩ j) g t #[a, b, c, d, e, f, h, i, j] := by
  have := ((((((((hb.set 0 a).set 1 b).set 2 c).set 3 d).set 4 e).set 5 f).set 6 h).set 7 i).set 8 j
  simpa using this
theorem PTabs.low {w w' : World} {Bd : Nat} (h : PTabs w) (hb : Below Bd w w') (hn : nT ≤ Bd) : PTabs w' := by
  exact ⟨h.ops.keep (hb.block _ (by have : 0 < nT := by decide
                                    omega)), h.anch.keep (hb.block _ (by have : 2 < nT := by decide
                                                                         omega)), h.kinds.keep (hb.block _ (by have : 3 < nT := by decide
                                                                                                               omega))⟩
theorem lineT_at {src : B} {k : Nat} {x : Wd} {q : List Wd} (h : (linesL src)[k]? = some (x :: q)) : (linesT src)[k]? = some (x.1, x.2.2 :: q.map (·.2.2)) := by
  unfold linesT
  rw [List.getElem?_map, h]
  rfl
theorem parse_bad {src : B} {k : Nat} {no e : Int} {l : List B} {s : PS} (h : stmts (gnames 0 ((linesT src).map (·.2))) ps0 ((linesT src).take k) = .ok s) (hk : (linesT src)[k]? = some (no, l)) (he : stmt (gnames 0 ((linesT src).map (·.2))) s l = .error e) : parseL src = .error (no, e) := by
  unfold parseL
  rw [stmts_bad h hk he]
  rfl
theorem parse_good {src : B} {s : PS} (h : stmts (gnames 0 ((linesT src).map (·.2))) ps0 (linesT src) = .ok s) : parseL src = .ok s.f := by
  unfold parseL
  rw [h]
  rfl
theorem gl_eq (src : B) : (linesT src).map (·.2) = trows (linesL src) := by
  unfold linesT trows
  rw [List.map_map]
  rfl
set_option maxRecDepth 100000 in
set_option maxHeartbeats 8000000 in
theorem parseFont_ok (w : World) (src : B) (hs : src.length ≤ 1000000) (hTb : PTabs w) (hnT : nT ≤ w.heap.size) : Calls Tryz.prog 19 #[.string ⟨src.toArray⟩] w (FontPost w (parseL src)) := by
  have hmk := fun w => mkMapC w
  go_enter Tryz.func19, Tryz.ntmps19
  go_wp2_with fail
  refine (lines_ok _ src hs).mono ?_
  rintro e w1 ⟨v, rfl, A, c, hs1, rfl, hrd, hri, hb1⟩
  have hlm : ∀ r ∈ linesL src, r.length ≤ 1000000 ∧ ∀ x ∈ r, x.2.2.length ≤ 1000000 := line_bounds src hs
  have hR1 : Bk w1 w.heap.size tFnt zeroF := (Bk.new w tFnt zeroF).keep (hb1.block _ (by simp))
  have hT1 : PTabs w1 := (hTb.below ((Below.refl _ _).alloc (Nat.le_refl _) _)).below hb1
  have hz1 : w.heap.size + 1 ≤ w1.heap.size := by have := hb1.size; simpa using this
  have hlw : Below w.heap.size w w1 := ((Below.refl w.heap.size w).alloc (Nat.le_refl _) (.cells zeroF tFnt)).trans (hb1.mono (by simp))
  have hfew := lines_few src
  have htot := tot_lines src
  have hgl := glyphNames_ok w1 A (linesL src).length c (linesL src) hs1 hrd hri (by omega) (lines_ne src) (fun r hr => ⟨by have := (hlm r hr).1; omega, (hlm r hr).2⟩)
  rw [← gl_eq] at hgl
  have hgI : Hid (∀ t n, (gnames 0 ((linesT src).map (·.2))).lookup t = some n → n ≤ 1000000000) := fun t n h => by
    have h1 := gnames_le 0 _ t n h
    have h2 := cntG_le ((linesT src).map (·.2))
    rw [gl_eq] at h2
    unfold trows at h2
    rw [List.length_map] at h2
    rw [gl_eq] at h1
    unfold trows at h1
    omega
  have HPB : Hid (∀ (k : Nat) (no e : Int) (l : List B) (s : PS), stmts (gnames 0 ((linesT src).map (·.2))) ps0 ((linesT src).take k) = .ok s → (linesT src)[k]? = some (no, l) → stmt (gnames 0 ((linesT src).map (·.2))) s l = .error e → parseL src = .error (no, e)) := fun k no e l s h1 h2 h3 => parse_bad h1 h2 h3
  have HPG : Hid (∀ s, stmts (gnames 0 ((linesT src).map (·.2))) ps0 (linesT src) = .ok s → parseL src = .ok s.f) := fun s h => parse_good h
  have HLA : Hid (∀ (k : Nat) (x : Wd) (q : List Wd), (linesL src)[k]? = some (x :: q) → (linesT src)[k]? = some (x.1, x.2.2 :: q.map (·.2.2))) := fun k x q h => lineT_at h
  have HNE := Lib.hid (lines_ne src)
  have hlen2 : Hid ((linesT src).length = (linesL src).length) := by show _ = _; unfold linesT; rw [List.length_map]
  generalize gnames 0 ((linesT src).map (·.2)) = gl at *
  have HT1 := Lib.hid hT1
  have HR1 := Lib.hid hR1
  have HLW := Lib.hid hlw
  have HRD := Lib.hid hrd
  have HRI := Lib.hid hri
  have HLM := Lib.hid hlm
  generalize linesT src = LT at *
  generalize linesL src = LL at *
  generalize hpar : parseL src = PA at *
  clear hpar hT1 hR1 hlw hrd hri hlm hb1 hTb
  go_wp2_with fail
  refine hgl.mono ?_
  rintro e w2 ⟨gm, rfl, hgm, hgF, hb2⟩
  have hz2 := hb2.size
  have HGF := Lib.hid hgF
  have HB2 := Lib.hid hb2
  clear hgl hgF hb2
  go_wp2_with fail
  obtain ⟨w4, hw4⟩ : ∃ x, ((w2.alloc (.map #[] 0)).alloc (.cells #[.int .i64 0, .slice none 0 0, .slice none 0 0, .slice none 0 0, .slice none 0 0, .slice none 0 0, .slice none 0 0, .slice none 0 0, .slice none 0 0, .bool false, .map (some gm), .map (some w2.heap.size)] tPar)) = x := ⟨_, rfl⟩
  rw [hw4]
  have hpar4 : Bk w4 (w2.heap.size + 1) tPar (parCells ps0 rv0 gm w2.heap.size) := by
    have := Bk.new (w2.alloc (.map #[] 0)) tPar #[.int .i64 0, .slice none 0 0, .slice none 0 0, .slice none 0 0, .slice none 0 0, .slice none 0 0, .slice none 0 0, .slice none 0 0, .slice none 0 0, .bool false, .map (some gm), .map (some w2.heap.size)]
    have e : (w2.alloc (.map #[] 0)).heap.size = w2.heap.size + 1 := by simp
    rw [hw4, e] at this
    exact this
  have hb4 : Below w2.heap.size w2 w4 := hw4 ▸ ((Below.refl _ _).alloc (Nat.le_refl _) _).alloc (by simp) _
  have hcm4 : MapF embB w4 w2.heap.size (fun _ => none) := hw4 ▸ ((MapF.new embB w2).below ((Below.refl _ _).alloc (Nat.le_refl _) _))
  have hz4 : w2.heap.size + 2 ≤ w4.heap.size := by rw [← hw4]; simp
  clear hw4
  have hgml := HGF.out.lt
  have HP4 := Lib.hid (PSt.start (Bd := w1.heap.size) hpar4 (HGF.out.below hb4) hcm4 hgI.out ⟨by omega, by omega, by omega, by omega⟩)
  have HB4 := Lib.hid hb4
  clear hpar4 hb4 hcm4 hmk
  refine (statements_ok w4 _).mono ?_
  rintro e w6 ⟨M, f, aContour, bContour, aPart, bPart, aAnchor, bAnchor, aDelta, bDelta, aHint, bHint, aRule, bRule, rfl, hM, hTab, hb6⟩
  have HTAB := Lib.hid hTab
  have HP6 := Lib.hid (HP4.out.below hb6)
  have h16 : Below w1.heap.size w1 w6 := HB2.out.trans ((HB4.out.trans (hb6.mono (by omega))).mono hz2)
  have HFIN : Hid (∀ W, Below w1.heap.size w1 W → (storeVar tFnt ⟨w.heap.size, 0, none⟩ (.agg zeroF)).run Tryz.prog W.drew = .ok () W.drew ∧ ∀ tmps (no e : Int), PA = .error (no, e) → tmps.getD 2 undef = .pointer (some ⟨w.heap.size, 0, none⟩) → tmps.getD 3 undef = .int .i64 no → tmps.getD 4 undef = .int .i64 e → bodyPost Tryz.prog Tryz.f19 (FontPost w PA) Exit.ret ⟨tmps, []⟩ W.drew) := fun W hW => by
    have hb : Bk W w.heap.size tFnt zeroF := HR1.out.keep (hW.block _ (by omega))
    refine ⟨?_, fun tmps no e hp t2 t3 t4 => ?_⟩
    · have h := run_storeVar_row (P := Tryz.prog) W.drew w.heap.size tFnt tFnt zeroF zeroF hb (by rw [infoFnt]; rfl) rfl (by simp [Value.oneCell'])
      rw [setRow_self W.drew w.heap.size zeroF tFnt (0, 0) hb] at h
      exact h
    · have hb2 : Bk W.drew w.heap.size tFnt zeroF := hb
      refine bodyPost_ret (results_font hb2 rfl t2 t3 t4) rfl ⟨(HLW.out.trans (hW.mono HLW.out.size)).drew, ?_⟩
      rw [hp]
  have hz6 := hb6.size
  have hne : M ≠ w2.heap.size := by omega
  have hzw : w.heap.size + 1 ≤ w6.heap.size := by omega
  have H16 := Lib.hid h16
  clear hTab hb6 h16 HP4 HB4 HB2 HGF hgI
  go_wp2_with fail
  go_loopw [24] (fun i wr => ∃ k s rv, k ≤ LL.length ∧ i = .int .i64 (k : Nat) ∧ FSt w6 w1.heap.size (w2.heap.size + 1) gm w2.heap.size gl LT LL k s rv wr) (fun i _ => LL.length - (intOf i).toNat)
  case atStart => exact ⟨0, ps0, rv0, Nat.zero_le _, rfl, ⟨by rw [List.take_zero]; exact HP6.out, KQ.refl _ _, Below.refl _ _, by rw [List.take_zero]; rfl⟩⟩
  case round =>
    obtain ⟨k, s, rv, hk, rfl, hst⟩ := hrel
    have hbW : Below w1.heap.size w1 wr := H16.out.trans hst.low
    have HBW := Lib.hid hbW
    have zR : w.heap.size < wr.heap.size := by have := hbW.size; omega
    obtain ⟨hstZ, -⟩ := HFIN.out wr hbW
    by_cases hlt : k < LL.length
    · obtain ⟨b, o, r, Ar, kr, cr, rfl, hp, hbw1, q1w, hrdw, hkr, hkc⟩ := row_at3 HRD.out HRI.out hlt
      have q1 : wr.cell? ⟨b, o + k, none⟩ = some (.slice Ar kr cr) := ((bcell hbW).1 _ _ hbw1).trans q1w
      have hbw := Nat.lt_of_lt_of_le hbw1 hbW.size
      have hrd := hrdw.below hbW
      have hrm := List.mem_of_getElem? hp.out
      have hLn : LnAt wr Ar kr r := ⟨hrd, (HLM.out r hrm).2, by rw [hkr]; have := (HLM.out r hrm).1; omega⟩
      obtain ⟨x, q, rfl⟩ : ∃ x q, r = x :: q := by
        cases r with
        | nil => exact absurd rfl (HNE.out _ hrm)
        | cons x q => exact ⟨x, q, rfl⟩
      have htx : txts (x :: q) = x.2.2 :: q.map (·.2.2) := rfl
      obtain ⟨x1, x2, x3⟩ := x
      have hkl := HLA.out k _ q hp.out
      simp only at hkl htx
      obtain ⟨htt, htn⟩ := tot_take LL k _ hp.out
      obtain ⟨b1, o1, y1, y2, y3, rfl, hb1, hy, p0w, p1w, p2w⟩ := hrdw.rd.at3 (k := 0) (by rw [hkr]; simp)
      have hy1 : y1 = x1 ∧ y2 = x2 ∧ y3 = x3 := by
        have := hy.out
        simp only [List.getElem?_cons_zero, Option.some.injEq, Prod.mk.injEq] at this
        exact ⟨this.1.symm, this.2.1.symm, this.2.2.symm⟩
      obtain ⟨rfl, rfl, rfl⟩ := hy1
      simp only [Nat.zero_mul, Nat.add_zero] at p0w p1w p2w
      have p0 : wr.cell? ⟨b1, o1, none⟩ = some (.int .i64 y1) := ((bcell hbW).1 _ _ hb1).trans p0w
      have p2 : wr.cell? ⟨b1, o1 + 2, none⟩ = some (.string ⟨y3.toArray⟩) := ((bcell hbW).1 _ _ hb1).trans p2w
      have P0 : Hid (∀ W, Below w1.heap.size w1 W → W.cell? ⟨b1, o1, none⟩ = some (.int .i64 y1)) := fun W hW => ((bcell hW).1 _ _ hb1).trans p0w
      have Z1 : Hid (∀ W, Below w1.heap.size w1 W → b1 < W.heap.size ∧ w.heap.size < W.heap.size) := fun W hW => ⟨Nat.lt_of_lt_of_le hb1 hW.size, by have := hW.size; omega⟩
      have hTk := HTAB.out.kq hst.kq hne
      have hcall := stmt_call wr w1.heap.size (w2.heap.size + 1) gm w2.heap.size gl s rv (tot (LL.take k)) _ kr cr _ y3 (q.map (·.2.2)) hTk hst.st hLn htx (by omega) hkc (HT1.out.below hbW) (by omega)
      have hlk := hTk.map.look2 Tryz.underlying117 Tryz.underlying9 (zeroStmt wr) y3
      have HST := Lib.hid hst
      have hk0 : 0 < kr := by rw [hkr]; simp
      have HKL := Lib.hid hkl
      have HKR := Lib.hid (show kr = ((y1, y2, y3) :: q).length from hkr)
      rw [← hkr] at htn
      have HTN := Lib.hid htn
      clear hkr htn htt hst hrd hrdw hLn hTk hp hy htx hrm hkl q1w p0w p1w p2w hbw1 hkc hbW
      rcases hcall with ⟨hf, he⟩ | ⟨F, hf, hE, hC⟩ | ⟨F, a, b', hf, hE, hC⟩
      · rw [hf] at hlk
        have hlk2 : (Instr.lookup 117 (.map (some M)) (.string ⟨y3.toArray⟩) true).run Tryz.prog wr = .ok (.tuple #[Value.nilFunc, .bool false]) wr := hlk
        have HE := Lib.hid (HPB.out k _ _ _ _ HST.out.ok HKL.out he)
        have HF7 := Lib.hid (HFIN.out wr HBW.out).2
        clear hlk hf he
        go_wp2_with fail
        go_region
        all_goals
          go_wp2
          (try simp only [Exit.inBlock, Exit.then])
          exact HF7.out _ _ _ HE.out rfl rfl rfl
      · skip
        rw [hf] at hlk
        have hlk2 : (Instr.lookup 117 (.map (some M)) (.string ⟨y3.toArray⟩) true).run Tryz.prog wr = .ok (.tuple #[.func (.func F) #[.pointer (some ⟨w2.heap.size + 1, 0, none⟩)] #[], .bool true]) wr := hlk
        cases hres : stmt gl s (y3 :: q.map (·.2.2)) with
        | error e9 =>
          rw [hres] at hC
          have HC := Lib.hid hC
          have HE := Lib.hid (HPB.out k _ _ _ _ HST.out.ok HKL.out hres)
          have he9 : (e9 != 0) = true := by simpa using nz_stmt _ _ _ _ hres
          clear hlk hf hC hres hstZ
          go_wp2_with fail
          refine HC.out.mono ?_
          rintro e w7 ⟨hb7, rfl⟩
          have hbW7 := HBW.out.trans hb7
          obtain ⟨hstZ, hfin⟩ := HFIN.out w7 hbW7
          have HF7 := Lib.hid hfin
          have p07 := P0.out w7 hbW7
          obtain ⟨zb7, zR7⟩ := Z1.out w7 hbW7
          clear hfin hb7 hbW7
          go_wp2_with fail
          go_region
          all_goals
            go_wp2
            (try simp only [Exit.inBlock, Exit.then])
            exact HF7.out _ _ _ HE.out rfl rfl rfl
        | ok s' =>
          rw [hres] at hC
          have HC := Lib.hid hC
          have HSN : Hid (stmts gl ps0 (LT.take (k + 1)) = .ok s') := by show _ = _; rw [stmts_take HST.out.ok HKL.out, hres]
          clear hlk hf hC hres hstZ
          go_wp2_with fail
          refine HC.out.mono ?_
          rintro e w7 ⟨hb7, rfl, hkq7, rv', hP7⟩
          have HNX : Hid (FSt w6 w1.heap.size (w2.heap.size + 1) gm w2.heap.size gl LT LL (k + 1) s' rv' w7) := ⟨by rw [HTN.out]; exact hP7, HST.out.kq.trans hkq7, HST.out.low.trans hb7, HSN.out⟩
          clear hb7 hkq7 hP7
          go_wp2_with fail
          go_roundw
          case rel => exact ⟨k + 1, s', rv', by omega, by simp, HNX.out⟩
          case measure => simp [intOf]; omega
      · skip
        rw [hf] at hlk
        have hlk2 : (Instr.lookup 117 (.map (some M)) (.string ⟨y3.toArray⟩) true).run Tryz.prog wr = .ok (.tuple #[.func (.func F) #[] #[.pointer (some ⟨a, 0, none⟩), .pointer (some ⟨b', 0, none⟩)], .bool true]) wr := hlk
        cases hres : stmt gl s (y3 :: q.map (·.2.2)) with
        | error e9 =>
          rw [hres] at hC
          have HC := Lib.hid hC
          have HE := Lib.hid (HPB.out k _ _ _ _ HST.out.ok HKL.out hres)
          have he9 : (e9 != 0) = true := by simpa using nz_stmt _ _ _ _ hres
          clear hlk hf hC hres hstZ
          go_wp2_with fail
          refine HC.out.mono ?_
          rintro e w7 ⟨hb7, rfl⟩
          have hbW7 := HBW.out.trans hb7
          obtain ⟨hstZ, hfin⟩ := HFIN.out w7 hbW7
          have HF7 := Lib.hid hfin
          have p07 := P0.out w7 hbW7
          obtain ⟨zb7, zR7⟩ := Z1.out w7 hbW7
          clear hfin hb7 hbW7
          go_wp2_with fail
          go_region
          all_goals
            go_wp2
            (try simp only [Exit.inBlock, Exit.then])
            exact HF7.out _ _ _ HE.out rfl rfl rfl
        | ok s' =>
          rw [hres] at hC
          have HC := Lib.hid hC
          have HSN : Hid (stmts gl ps0 (LT.take (k + 1)) = .ok s') := by show _ = _; rw [stmts_take HST.out.ok HKL.out, hres]
          clear hlk hf hC hres hstZ
          go_wp2_with fail
          refine HC.out.mono ?_
          rintro e w7 ⟨hb7, rfl, hkq7, rv', hP7⟩
          have HNX : Hid (FSt w6 w1.heap.size (w2.heap.size + 1) gm w2.heap.size gl LT LL (k + 1) s' rv' w7) := ⟨by rw [HTN.out]; exact hP7, HST.out.kq.trans hkq7, HST.out.low.trans hb7, HSN.out⟩
          clear hb7 hkq7 hP7
          go_wp2_with fail
          go_roundw
          case rel => exact ⟨k + 1, s', rv', by omega, by simp, HNX.out⟩
          case measure => simp [intOf]; omega
    · obtain rfl : k = LL.length := by omega
      have hall : stmts gl ps0 LT = .ok s := by
        have := hst.ok
        rwa [List.take_of_length_le (by rw [hlen2.out]; exact Nat.le_refl _)] at this
      have HPA := Lib.hid (HPG.out s hall)
      have hR9 : Bk wr w.heap.size tFnt zeroF := HR1.out.keep (hbW.block _ (by omega))
      have hdone := hst.st.done
      obtain ⟨A1, c1, A2, c2, A3, c3, A4, c4, A5, c5, A6, c6, A7, c7, A8, c8, ee, d0, d1, d2, d3, d4, d5, d6, d7, d8⟩ := hst.st.done
      have hpar := hst.st.par
      have HDN : Hid (FntR wr (Dt wr) [.int .i64 s.f.unit, .slice A1 s.f.glyphs.length c1, .slice A2 s.f.chars.length c2, .slice A3 s.f.lookups.length c3, .slice A4 s.f.features.length c4, .slice A5 s.f.axes.length c5, .slice A6 s.f.regions.length c6, .slice A7 s.f.funcs.length c7, .slice A8 s.f.cvt.length c8] s.f) := by
        show FntR _ _ _ _
        rw [← ee]
        exact hdone
      simp only [List.cons.injEq, and_true, true_and] at ee
      obtain ⟨e1, e2, e3, e4, e5, e6, e7, e8⟩ := ee
      have m0 := hpar.cell 0
      have m1 := hpar.cell 1
      have m2 := hpar.cell 2
      have m3 := hpar.cell 3
      have m4 := hpar.cell 4
      have m5 := hpar.cell 5
      have m6 := hpar.cell 6
      have m7 := hpar.cell 7
      have m8 := hpar.cell 8
      simp only [parCells, List.getElem?_toArray, List.getElem?_cons_succ, List.getElem?_cons_zero] at m0 m1 m2 m3 m4 m5 m6 m7 m8
      rw [e1] at m1
      rw [e2] at m2
      rw [e3] at m3
      rw [e4] at m4
      rw [e5] at m5
      rw [e6] at m6
      rw [e7] at m7
      rw [e8] at m8
      have hstF := run_storeVar_row (P := Tryz.prog) wr w.heap.size tFnt tFnt zeroF #[.int .i64 s.f.unit, .slice A1 s.f.glyphs.length c1, .slice A2 s.f.chars.length c2, .slice A3 s.f.lookups.length c3, .slice A4 s.f.features.length c4, .slice A5 s.f.axes.length c5, .slice A6 s.f.regions.length c6, .slice A7 s.f.funcs.length c7, .slice A8 s.f.cvt.length c8] hR9 (by rw [infoFnt]; rfl) rfl (by simp [Value.oneCell'])
      have HR9 := Lib.hid hR9
      have HLr : Hid (Below w.heap.size w wr) := HLW.out.trans (hbW.mono (by omega))
      have zp := hpar.lt
      clear hst hall hR9 hdone d0 d1 d2 d3 d4 d5 d6 d7 d8 hpar e1 e2 e3 e4 e5 e6 e7 e8 hstZ hbW
      go_wp2_with fail
      (try simp only [Exit.inBlock, Exit.then])
      refine bodyPost_ret (results_font (setRow_heap wr w.heap.size zeroF _ tFnt (0, 0) HR9.out) rfl rfl rfl rfl) rfl ⟨below_setRow HLr.out (Nat.le_refl _) _, ?_⟩
      rw [HPA.out]
      refine ⟨_, rfl, ?_⟩
      have hsame : Same (Dt wr) wr (wr.setRow w.heap.size #[.int .i64 s.f.unit, .slice A1 s.f.glyphs.length c1, .slice A2 s.f.chars.length c2, .slice A3 s.f.lookups.length c3, .slice A4 s.f.features.length c4, .slice A5 s.f.axes.length c5, .slice A6 s.f.regions.length c6, .slice A7 s.f.funcs.length c7, .slice A8 s.f.cvt.length c8]) := fun g ⟨cs, t, hk, hd⟩ => setRow_other _ _ _ _ (fun e => by
        subst e
        rw [(bk_one hk HR9.out).1] at hd
        revert hd
        decide)
      exact FntR.ok.mono (FntR.ok.keep HDN.out hsame) (fun g ⟨cs, t, hk, hd⟩ => ⟨cs, t, (hsame g ⟨cs, t, hk, hd⟩).trans hk, hd⟩)
end Go.Proofs.YtkijckccfookeaaGreatDoor
