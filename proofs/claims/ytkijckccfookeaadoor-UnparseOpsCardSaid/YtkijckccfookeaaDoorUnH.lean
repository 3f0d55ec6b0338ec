/- unparse: glyph. Printed by gen_glyph.py. -/
import Derived.Test.YtkijckccfookeaaDoorUnH0
import Derived.Deep.DeepCutAuto
namespace Go.Proofs.YtkijckccfookeaaDoor
open Go.RowKit Go.Shelf Go.Sort
attribute [local go_sem] Oper.semAt_some

/-- the texts of a glyph's lines, one kind behind the other -/
def gT1 (x : Glyph) : B := lineB sGlyph (x.name :: itB x.advance :: if x.mark then [sMark] else [])
def gT2 (x : Glyph) : B := (contsFrom x.points 0 x.ends).flatMap (fun c => lineB sContour (c.map ptB))
def partB (gs : List Glyph) (p : Part) : B := lineB sPart [gnB gs p.glyph, itB p.x, itB p.y]
def anchB (a : Anchor) : B := lineB sAnchor [pick anchorNames a.kind, itB a.cls, itB a.x, itB a.y]
def delB (d : Delta) : B := lineB sDelta [itB d.region, itB d.point, itB d.x, itB d.y]
def hintB (l : List Ins) : B := if l.isEmpty then [] else lineB sHint (l.map insB)
theorem flat_ge {α : Type} (f : α → B) (hf : ∀ x, 1 ≤ (f x).length) (l : List α) : l.length ≤ (l.flatMap f).length := by
  induction l with
  | nil => simp
  | cons x l ih =>
    have := hf x
    rw [List.flatMap_cons, List.length_append, List.length_cons]
    omega
theorem line_pos (f : B) (ws : List B) : 1 ≤ (lineB f ws).length := by have := line_words f ws; omega
theorem glyphB_eq (gs : List Glyph) (x : Glyph) : glyphB gs x = gT1 x ++ gT2 x ++ x.parts.flatMap (partB gs) ++ x.anchors.flatMap anchB ++ x.deltas.flatMap delB ++ hintB x.hint := rfl
set_option maxRecDepth 100000 in
set_option maxHeartbeats 2000000 in
theorem glyph_ok (w : World) (Bd g : Nat) (fc : Nat → Value) (txt : B) (gs : List Glyph) (A3 A4 A5 A6 A7 A8 : Option Addr) (c3 c4 c5 c6 c7 c8 : Nat) (x : Glyph) (hT : Tabs w) (hG : nG ≤ Bd) (hP : PN w g gs) (hgl : gs.length ≤ 1000000000000) (hp : Pr w Bd g fc txt) (hBd : Bd ≤ w.heap.size)
    (r1 : I64 x.advance) (h3 : Sl PtR 3 w (FT w) A3 x.points) (h4 : Sl IntR 1 w (FT w) A4 x.ends) (h5 : Sl PartR 3 w (FT w) A5 x.parts) (h6 : Sl AnchorR 4 w (FT w) A6 x.anchors) (h7 : Sl DeltaR 4 w (FT w) A7 x.deltas) (h8 : Sl InsR 2 w (FT w) A8 x.hint)
    (hpn : x.points.length ≤ 1000000000) (hen : x.ends.length ≤ 1000000000) (hhn : x.hint.length ≤ 1000000000) (hlen : txt.length + (glyphB gs x).length ≤ 10000000000) :
    Calls Tryd.prog 25 #[.pointer (some ⟨g, 0, none⟩), .agg #[.string ⟨x.name.toArray⟩, .int .i64 x.advance, .bool x.mark, .slice A3 x.points.length c3, .slice A4 x.ends.length c4, .slice A5 x.parts.length c5, .slice A6 x.anchors.length c6, .slice A7 x.deltas.length c7, .slice A8 x.hint.length c8]] w
      fun e w' => e = .returned (.tuple #[]) ∧ Pr w' Bd g fc (txt ++ glyphB gs x) ∧ KP w w' ∧ Below Bd w w' := by
  rw [glyphB_eq] at hlen ⊢
  have hlens : txt.length + (gT1 x).length + (gT2 x).length + (x.parts.flatMap (partB gs)).length + (x.anchors.flatMap anchB).length + (x.deltas.flatMap delB).length + (hintB x.hint).length ≤ 10000000000 := by
    simp only [List.length_append] at hlen
    omega
  clear hlen
  have HT1 : Hid (lineB sGlyph (x.name :: itB x.advance :: if x.mark then [sMark] else []) = gT1 x) := rfl
  have HT2' : Hid (gT2 x = (contsFrom x.points 0 x.ends).flatMap (fun c => lineB sContour (c.map ptB))) := rfl
  generalize gT1 x = T1 at *
  generalize gT2 x = T2 at *
  have hlen1 : txt.length + T1.length ≤ 10000000000 := by omega
  have h41n : x.parts.length ≤ 10000000000 := by have := flat_ge (partB gs) (fun _ => line_pos _ _) x.parts; omega
  have h62n : x.anchors.length ≤ 10000000000 := by have := flat_ge anchB (fun _ => line_pos _ _) x.anchors; omega
  have h85n : x.deltas.length ≤ 10000000000 := by have := flat_ge delB (fun _ => line_pos _ _) x.deltas; omega
  refine (callsIn_wide (n := 20)).1 ?_
  refine callsIn_of_wp_marks Tryd.func25 rfl trivial ?_ rfl
  refine wpIn_wide.2 ?_
  simp only [Tryd.ntmps25, List.size_toArray, List.length_cons, List.length_nil, Nat.reduceAdd, Nat.reduceSub, Array.replicate_succ, Array.replicate_zero, List.push_toArray, List.append_toArray, List.nil_append, List.cons_append]
  go_upto_region 1 with fail
  obtain ⟨W0, hW0⟩ : ∃ W0, (w.alloc (.cells #[.pointer (some ⟨g, 0, none⟩)] 90)).alloc (.cells #[.string ⟨x.name.toArray⟩, .int .i64 x.advance, .bool x.mark, .slice A3 x.points.length c3, .slice A4 x.ends.length c4, .slice A5 x.parts.length c5, .slice A6 x.anchors.length c6, .slice A7 x.deltas.length c7, .slice A8 x.hint.length c8] 57) = W0 := ⟨_, rfl⟩
  rw [hW0]
  have hbW : Below w.heap.size w W0 := by rw [← hW0]; exact ((Below.refl _ _).alloc (Nat.le_refl _) _).alloc (by simp) _
  have B0 : Bk W0 w.heap.size 90 #[.pointer (some ⟨g, 0, none⟩)] := by rw [← hW0]; exact (bk1 _ _ _).alloc _
  have B1 : Bk W0 (w.heap.size + 1) 57 #[.string ⟨x.name.toArray⟩, .int .i64 x.advance, .bool x.mark, .slice A3 x.points.length c3, .slice A4 x.ends.length c4, .slice A5 x.parts.length c5, .slice A6 x.anchors.length c6, .slice A7 x.deltas.length c7, .slice A8 x.hint.length c8] := by
    rw [← hW0]
    have := Bk.new (w.alloc (.cells #[.pointer (some ⟨g, 0, none⟩)] 90)) 57 #[.string ⟨x.name.toArray⟩, .int .i64 x.advance, .bool x.mark, .slice A3 x.points.length c3, .slice A4 x.ends.length c4, .slice A5 x.parts.length c5, .slice A6 x.anchors.length c6, .slice A7 x.deltas.length c7, .slice A8 x.hint.length c8]
    rwa [World.size_alloc] at this
  have z0 := hbW.size
  clear hW0
  have hp0 := hp.below hbW
  have hT0 := hT.all hbW
  have q0 : W0.cell? ⟨w.heap.size, 0, none⟩ = some (.pointer (some ⟨g, 0, none⟩)) := B0.cell 0
  have m0 : W0.cell? ⟨w.heap.size + 1, 0, none⟩ = some (.string ⟨x.name.toArray⟩) := B1.cell 0
  have m1 : W0.cell? ⟨w.heap.size + 1, 1, none⟩ = some (.int .i64 x.advance) := B1.cell 1
  have m2 : W0.cell? ⟨w.heap.size + 1, 2, none⟩ = some (.bool x.mark) := B1.cell 2
  have z00 : ¬ (w.heap.size + 1 = w.heap.size) := by omega
  go_upto_if 13 with fail
  go_cut [1, 3, 13] from 14 to 29 (fun _ s3 _ wx => s3 = .pointer (some ⟨w.heap.size + 1, 0, none⟩) ∧ GyI w W0 Bd g fc (txt ++ T1) wx)
  case first =>
    have n1 := Lib.hid (fun w hT => number_ok w x.advance hT r1)
    generalize itB x.advance = ta at *
    cases hmk : x.mark with
    | true =>
      rw [hmk] at m2 HT1
      have HT2 : Hid (lineB sGlyph [x.name, ta, sMark] = T1) := Lib.hid (by have := HT1.out; simpa using this)
      have hl2 : txt.length + (lineB sGlyph [x.name, ta, sMark]).length ≤ 10000000000 := by rw [HT2.out]; exact hlen1
      go_wp2_with fail
      go_region_held3 (fun w' => w'.cell? ⟨w.heap.size, 0, none⟩ = some (.pointer (some ⟨g, 0, none⟩)) ∧ w'.cell? ⟨w.heap.size + 1, 0, none⟩ = some (.string ⟨x.name.toArray⟩) ∧ w'.cell? ⟨w.heap.size + 1, 1, none⟩ = some (.int .i64 x.advance))
        (first
          | exact ⟨(hk2.bk (B0.below hc1) (by decide) (by decide)).cell 0, (hk2.bk (B1.below hc1) (by decide) (by decide)).cell 0, (hk2.bk (B1.below hc1) (by decide) (by decide)).cell 1⟩
          | exact ⟨cellA _ (cellB hc1 q0), cellA _ (cellB hc1 m0), cellA _ (cellB hc1 m1)⟩
          | exact ⟨cellB hc1 q0, cellB hc1 m0, cellB hc1 m1⟩
          | go_keep)
        (first
          | (go_at_call 21; refine (n1.out _ hT0.drew).mono ?_; rintro e w1 ⟨rfl, hb1⟩; have hc1 := unDrew hb1; have z1 := hc1.size)
          | (go_at_call 20; refine (line_lit w1 w1.heap.size 3 rfl Bd g fc txt sGlyph [x.name, ta, sMark] rfl (hp0.below hc1) hl2).mono ?_; rintro e w2 ⟨rfl, hp2, hk2, hb2⟩))
      go_wp2
      go_meet
      rw [HT2.out] at hp2
      exact ⟨rfl, hp2, (KP.below hc1).trans hk2, (hbW.mono hBd).trans ((hc1.mono (by omega)).trans hb2)⟩
    | false =>
      rw [hmk] at m2 HT1
      have HT2 : Hid (lineB sGlyph [x.name, ta] = T1) := Lib.hid (by have := HT1.out; simpa using this)
      have hl2 : txt.length + (lineB sGlyph [x.name, ta]).length ≤ 10000000000 := by rw [HT2.out]; exact hlen1
      go_wp2_with fail
      go_region_held3 (fun w' => w'.cell? ⟨w.heap.size, 0, none⟩ = some (.pointer (some ⟨g, 0, none⟩)) ∧ w'.cell? ⟨w.heap.size + 1, 0, none⟩ = some (.string ⟨x.name.toArray⟩) ∧ w'.cell? ⟨w.heap.size + 1, 1, none⟩ = some (.int .i64 x.advance))
        (first
          | exact ⟨(hk2.bk (B0.below hc1) (by decide) (by decide)).cell 0, (hk2.bk (B1.below hc1) (by decide) (by decide)).cell 0, (hk2.bk (B1.below hc1) (by decide) (by decide)).cell 1⟩
          | exact ⟨cellA _ (cellB hc1 q0), cellA _ (cellB hc1 m0), cellA _ (cellB hc1 m1)⟩
          | exact ⟨cellB hc1 q0, cellB hc1 m0, cellB hc1 m1⟩
          | go_keep)
        (first
          | (go_at_call 21; refine (n1.out _ hT0.drew).mono ?_; rintro e w1 ⟨rfl, hb1⟩; have hc1 := unDrew hb1; have z1 := hc1.size)
          | (go_at_call 20; refine (line_lit w1 w1.heap.size 2 rfl Bd g fc txt sGlyph [x.name, ta] rfl (hp0.below hc1) hl2).mono ?_; rintro e w2 ⟨rfl, hp2, hk2, hb2⟩))
      go_wp2
      go_meet
      rw [HT2.out] at hp2
      exact ⟨rfl, hp2, (KP.below hc1).trans hk2, (hbW.mono hBd).trans ((hc1.mono (by omega)).trans hb2)⟩

  case rest =>
    obtain ⟨rfl, hgy⟩ := hcut
    have hkc := hgy.2.1
    have m3 : wc.cell? ⟨w.heap.size + 1, 3, none⟩ = some (.slice A3 x.points.length c3) := (hkc.bk B1 (by decide) (by decide)).cell 3
    have m4 : wc.cell? ⟨w.heap.size + 1, 4, none⟩ = some (.slice A4 x.ends.length c4) := (hkc.bk B1 (by decide) (by decide)).cell 4
    have hkw : KP w wc := (KP.below hbW).trans hkc
    have hA3 := (hkw.sl PtR.ok h3).rdPts
    have hA4 := (hkw.sl IntR.ok h4).rdInts
    have Hgy := Lib.hid hgy
    clear q0 m0 m1 m2 hgy
    go_wp2_with (go_at_call 45; refine (contours_call wc wc.heap.size A3 A4 x.points.length c3 x.ends.length c4 (cPts x.points) (cPts_one _) x.ends hA3 hA4 (Nat.le_refl _) (by omega) (by omega)).mono ?_; rintro e w1 ⟨v, u, pb, eb, rfl, hov, hou, hPb, hEb, y1, y2, hb1⟩)
    obtain ⟨Av, cv, rfl, hrv⟩ := Rd.of_own hov
    obtain ⟨Eu, cu, rfl, -⟩ := Rd.of_own hou
    have hru := own_rdT hou
    have hgy1 : GyI w W0 Bd g fc (txt ++ T1) w1 := ⟨Hgy.out.1.below hb1, Hgy.out.2.1.trans (KP.below hb1), Hgy.out.2.2.trans (hb1.mono (Nat.le_trans (Nat.le_trans hBd z0) Hgy.out.2.1.size))⟩
    have hsz1 := hgy1.2.1.size
    have hpI := Lib.hid (ptsI h3)
    have hcl : Hid (∀ pre y, pre ++ [y] <+: atG y.2.2.2 (pcsF x.points.length 0 0 x.ends) → (pre.flatMap (contB x.points)).length + (contB x.points y).length ≤ T2.length) := fun pre y hy => by
      have h1 := conts_flat x.points x.ends y.2.2.2
      rw [← HT2'.out] at h1
      obtain ⟨r, hr⟩ := hy
      rw [← hr] at h1
      have h2 := congrArg List.length h1
      simp only [List.flatMap_append, List.length_append, List.flatMap_cons, List.flatMap_nil, List.append_nil] at h2
      omega
    clear hov hou m3 m4 hA3 hA4
    refine (wpIn_wide (n := 20)).1 ?_
    refine wpIn_range_give (d := 10) (by decide) (gf := 69) (lb := #[.pointer (some ⟨pb, 0, none⟩), .pointer (some ⟨eb, 0, none⟩)]) rfl (enters_of Tryd.func69 (by kernel_rfl) rfl) (fun _ => rfl)
      (cont_gives w1 x.points.length x.ends.length pb eb cv cu Av Eu (cPts x.points) (cPts_one _) x.ends hPb hrv hEb hru (by omega) (by omega))
      (fun h k => h.trans k) (fun W l o o' h hc => KC.put W l o o' h hc) (VC.putObj _ _ _)
      (fun pre W => GyI w W0 Bd g fc (txt ++ T1 ++ pre.flatMap (contB x.points)) W) (gyI_own (fun pre => txt ++ T1 ++ pre.flatMap (contB x.points)) hsz1 (Nat.le_trans hBd z0)) (by simpa using hgy1) ?a1 ?assign ?body ?done
    case assign =>
      intro l2 y W2 K hK
      simp only [encsC]
      gi_wp2
      exact hK
    case body =>
      rintro l2 pre ⟨idx, f, e, gg⟩ W2 hgy2 ⟨hpx, hfe, hen2, hrd⟩
      dsimp only at hfe hen2 hrd ⊢
      have hb5 := hcl.out pre (idx, f, e, gg) hpx
      have hpW : W2.cell? ⟨w.heap.size, 0, none⟩ = some (.pointer (some ⟨g, 0, none⟩)) := (hgy2.2.1.bk B0 (by decide) (by decide)).cell 0
      have hsl := rdT_cut hrd rfl hpI.out f e hfe hen2
      have hTW : Tabs W2 := hT.below hgy2.2.2 hG
      have hcy := contour_ok W2 Bd g fc (txt ++ T1 ++ pre.flatMap (contB x.points)) (some ⟨gg, f * 3, none⟩) (e + 1 - f) (cutP x.points f e) hTW hgy2.1 (Nat.le_trans (Nat.le_trans hBd z0) hgy2.2.1.size) hsl (by rw [cutP_len _ _ _ hen2]; omega) (by
        have : contB x.points (idx, f, e, gg) = lineB sContour ((cutP x.points f e).map ptB) := rfl
        rw [← this]
        simp only [List.length_append]
        omega)
      rw [cutP_len _ _ _ hen2] at hcy
      have Hcy := Lib.hid hcy
      have Hgy2 := Lib.hid hgy2
      clear hcy hsl hrd hpx hgy2 hTW
      gi_wp2_with fail
      refine ⟨trivial, rfl, ?_⟩
      refine (CallsIn.inRound l2 (callsIn_wide.2 Hcy.out)).mono ?_
      rintro e5 W3 ⟨rfl, hp3, hk3, hb3⟩
      have hout : Hid (GyI w W0 Bd g fc (txt ++ T1 ++ (pre ++ [(idx, f, e, gg)]).flatMap (contB x.points)) W3 ∧ KC W2 W3 ∧ KeepsOthers W2 W3) := by
        refine ⟨⟨?_, Hgy2.out.2.1.trans hk3, Hgy2.out.2.2.trans hb3⟩, hk3.kc, hk3.others⟩
        rw [List.flatMap_append, ← List.append_assoc]
        simpa [contB] using hp3
      clear hp3 hk3 hb3
      gi_wp2
      exact hout.out
    case done =>
      rintro D ys W1 hD ⟨g2, hS⟩ hgy1 hK
      have hgy1 : GyI w W0 Bd g fc (txt ++ T1 ++ T2) W1 := by
        rw [hS, conts_flat, ← HT2'.out] at hgy1
        exact hgy1
      clear hS
      have hkW1 := hgy1.2.1
      have hkw1 : KP w W1 := (KP.below hbW).trans hkW1
      have BW1 := hkW1.bk B1 (by decide) (by decide)
      have BP1 := hkW1.bk B0 (by decide) (by decide)
      have hsw : w.heap.size ≤ w1.heap.size := Nat.le_trans z0 hsz1
      have hBW1 : Bd ≤ W1.heap.size := Nat.le_trans (Nat.le_trans hBd z0) hkW1.size
      have l41 : W1.cell? ⟨w.heap.size + 1, 5, none⟩ = some (.slice A5 x.parts.length c5) := (hkW1.bk B1 (by decide) (by decide)).cell 5
      go_wp2_with fail
      go_loopw [41] (fun i wr => ∃ k : Nat, k ≤ x.parts.length ∧ i = .int .i64 k ∧ GyI w W1 Bd g fc (txt ++ T1 ++ T2 ++ (x.parts.take k).flatMap (partB gs)) wr) (fun i _ => x.parts.length - (intOf i).toNat)
      case atStart => exact ⟨0, Nat.zero_le _, rfl, ⟨by simpa using hgy1.1, KP.refl _, hgy1.2.2⟩⟩
      case round =>
        obtain ⟨k, hk, rfl, hgy⟩ := hrel
        by_cases hlt : k < x.parts.length
        · have hkr : KP w wr := hkw1.trans hgy.2.1
          have hkb : k ≤ 10000000000 := Nat.le_trans (Nat.le_of_lt hlt) h41n
          obtain ⟨b, o, y, rfl, -, hy, q0, q1, q2, r0, r1, r2⟩ := (hkr.sl PartR.ok h5).part hlt
          have hsn := Lib.hid (flat_take_snoc (partB gs) x.parts k y hy.out)
          have hle := flatB_take_succ_le (partB gs) x.parts k y hy.out
          obtain ⟨y0, y1, y2⟩ := y
          dsimp only at q0 q1 q2 r0 r1 r2
          have hll : (txt ++ T1 ++ T2 ++ (x.parts.take k).flatMap (partB gs)).length + (lineB sPart [gnB gs y0, itB y1, itB y2]).length ≤ 10000000000 := by
            have e : (partB gs) ⟨y0, y1, y2⟩ = lineB sPart [gnB gs y0, itB y1, itB y2] := rfl
            rw [e] at hle
            simp only [List.length_append]
            omega
          have BPr := hgy.2.1.bk BP1 (by decide) (by decide)
          have hTr : Tabs wr := hT.below hgy.2.2 hG
          have hPr : PN wr g gs := (hP.below hbW).kp hp0 hgy.1 (hkW1.trans hgy.2.1)
          have hzr := Nat.le_trans (Nat.le_trans hBd z0) (hkW1.trans hgy.2.1).size
          have Hgy := Lib.hid hgy
          have hpr := hgy.1
          clear hy hle hgy hkr
          go_wp2_with fail
          obtain ⟨W2, hW2⟩ : ∃ W2, wr.alloc (.cells #[.int .i64 y0, .int .i64 y1, .int .i64 y2] 66) = W2 := ⟨_, rfl⟩
          rw [hW2]
          have hb0 : Below wr.heap.size wr W2 := by rw [← hW2]; exact (Below.refl _ _).alloc (Nat.le_refl _) _
          have BV : Bk W2 wr.heap.size 66 #[.int .i64 y0, .int .i64 y1, .int .i64 y2] := by rw [← hW2]; exact Bk.new _ _ _
          have zz0 := hb0.size
          clear hW2 q0 q1 q2
          have BP := BPr.below hb0
          have hT2 := hTr.all hb0
          have hPd : PN W2.drew g gs := (hPr.below hb0).below (Below.refl _ _).drew
          have hpr2 := hpr.below hb0
          have p0 : W2.cell? ⟨w.heap.size, 0, none⟩ = some (.pointer (some ⟨g, 0, none⟩)) := BP.cell 0
          have v0 : W2.cell? ⟨wr.heap.size, 0, none⟩ = some (.int .i64 y0) := BV.cell 0
          have v1 : W2.cell? ⟨wr.heap.size, 1, none⟩ = some (.int .i64 y1) := BV.cell 1
          have v2 : W2.cell? ⟨wr.heap.size, 2, none⟩ = some (.int .i64 y2) := BV.cell 2
          go_region_held3 (fun w' => w'.cell? ⟨w.heap.size, 0, none⟩ = some (.pointer (some ⟨g, 0, none⟩)) ∧ w'.cell? ⟨wr.heap.size, 0, none⟩ = some (.int .i64 y0) ∧ w'.cell? ⟨wr.heap.size, 1, none⟩ = some (.int .i64 y1) ∧ w'.cell? ⟨wr.heap.size, 2, none⟩ = some (.int .i64 y2))
            (first
              | exact ⟨(hkz.bk (BP.below hc3) (by decide) (by decide)).cell 0, (hkz.bk (BV.below hc3) (by decide) (by decide)).cell 0, (hkz.bk (BV.below hc3) (by decide) (by decide)).cell 1, (hkz.bk (BV.below hc3) (by decide) (by decide)).cell 2⟩
              | exact ⟨cellA _ (cellB hc3 p0), cellA _ (cellB hc3 v0), cellA _ (cellB hc3 v1), cellA _ (cellB hc3 v2)⟩
              | exact ⟨cellB hc3 p0, cellB hc3 v0, cellB hc3 v1, cellB hc3 v2⟩
              | exact ⟨cellB hc2 p0, cellB hc2 v0, cellB hc2 v1, cellB hc2 v2⟩
              | exact ⟨cellB hc1 p0, cellB hc1 v0, cellB hc1 v1, cellB hc1 v2⟩
              | go_keep)
            (first
              | (go_at_call 26; refine (name_ok' _ g gs y0 hT2.drew r0 hPd hgl).mono ?_; rintro e w1 ⟨rfl, hb1⟩; have hc1 := unDrew hb1; have z1 := hc1.size)
              | (go_at_call 21; refine (number_ok _ y1 (hT2.all hc1) r1).mono ?_; rintro e w2 ⟨rfl, hb2⟩; have hc2 := bt hc1 hb2; have z2 := hc2.size)
              | (go_at_call 21; refine (number_ok _ y2 (hT2.all hc2) r2).mono ?_; rintro e w3 ⟨rfl, hb3⟩; have hc3 := bt hc2 hb3; have z3 := hc3.size)
              | (go_at_call 20; refine (line_lit w3 w3.heap.size 3 rfl Bd g fc _ sPart [gnB gs y0, itB y1, itB y2] rfl (hpr2.below hc3) hll).mono ?_; rintro e wz ⟨rfl, hpz, hkz, hbz⟩))
          go_wp2
          go_roundw
          case rel => exact ⟨k + 1, by omega, by simp, by rw [hsn.out, ← List.append_assoc]; exact hpz, Hgy.out.2.1.trans ((KP.below (bt hb0 hc3)).trans hkz), Hgy.out.2.2.trans (((bt hb0 hc3).mono hzr).trans hbz)⟩
          case measure => simp [intOf]; omega
        · obtain rfl : k = x.parts.length := by omega
          rw [List.take_length] at hgy
          have Hgy := Lib.hid hgy
          have l62 : W1.cell? ⟨w.heap.size + 1, 6, none⟩ = some (.slice A6 x.anchors.length c6) := (hkW1.bk B1 (by decide) (by decide)).cell 6
          have l62' : wr.cell? ⟨w.heap.size + 1, 6, none⟩ = some (.slice A6 x.anchors.length c6) := (hgy.2.1.bk BW1 (by decide) (by decide)).cell 6
          go_wp2_with fail
          go_loopw [62] (fun i wr => ∃ k : Nat, k ≤ x.anchors.length ∧ i = .int .i64 k ∧ GyI w W1 Bd g fc (txt ++ T1 ++ T2 ++ x.parts.flatMap (partB gs) ++ (x.anchors.take k).flatMap anchB) wr) (fun i _ => x.anchors.length - (intOf i).toNat)
          case atStart => exact ⟨0, Nat.zero_le _, rfl, by simpa using Hgy.out⟩
          case round =>
            obtain ⟨k, hk, rfl, hgy⟩ := hrel
            by_cases hlt : k < x.anchors.length
            · have hkr : KP w wr := hkw1.trans hgy.2.1
              have hkb : k ≤ 10000000000 := Nat.le_trans (Nat.le_of_lt hlt) h62n
              obtain ⟨b, o, y, rfl, -, hy, q0, q1, q2, q3, r0, r1, r2, r3⟩ := (hkr.sl AnchorR.ok h6).anchor hlt
              have hsn := Lib.hid (flat_take_snoc anchB x.anchors k y hy.out)
              have hle := flatB_take_succ_le anchB x.anchors k y hy.out
              obtain ⟨y0, y1, y2, y3⟩ := y
              dsimp only at q0 q1 q2 q3 r0 r1 r2 r3
              have hll : (txt ++ T1 ++ T2 ++ x.parts.flatMap (partB gs) ++ (x.anchors.take k).flatMap anchB).length + (lineB sAnchor [pick anchorNames y0, itB y1, itB y2, itB y3]).length ≤ 10000000000 := by
                have e : anchB ⟨y0, y1, y2, y3⟩ = lineB sAnchor [pick anchorNames y0, itB y1, itB y2, itB y3] := rfl
                rw [e] at hle
                simp only [List.length_append]
                omega
              have BPr := hgy.2.1.bk BP1 (by decide) (by decide)
              have hTr : Tabs wr := hT.below hgy.2.2 hG
              have hPr : PN wr g gs := (hP.below hbW).kp hp0 hgy.1 (hkW1.trans hgy.2.1)
              have hzr := Nat.le_trans (Nat.le_trans hBd z0) (hkW1.trans hgy.2.1).size
              have Hgy := Lib.hid hgy
              have hpr := hgy.1
              clear hy hle hgy hkr
              go_wp2_with fail
              obtain ⟨W2, hW2⟩ : ∃ W2, wr.alloc (.cells #[.int .i64 y0, .int .i64 y1, .int .i64 y2, .int .i64 y3] 68) = W2 := ⟨_, rfl⟩
              rw [hW2]
              have hb0 : Below wr.heap.size wr W2 := by rw [← hW2]; exact (Below.refl _ _).alloc (Nat.le_refl _) _
              have BV : Bk W2 wr.heap.size 68 #[.int .i64 y0, .int .i64 y1, .int .i64 y2, .int .i64 y3] := by rw [← hW2]; exact Bk.new _ _ _
              have zz0 := hb0.size
              clear hW2 q0 q1 q2 q3
              have BP := BPr.below hb0
              have hT2 := hTr.all hb0
              have hPd : PN W2.drew g gs := (hPr.below hb0).below (Below.refl _ _).drew
              have hpr2 := hpr.below hb0
              have p0 : W2.cell? ⟨w.heap.size, 0, none⟩ = some (.pointer (some ⟨g, 0, none⟩)) := BP.cell 0
              have v0 : W2.cell? ⟨wr.heap.size, 0, none⟩ = some (.int .i64 y0) := BV.cell 0
              have v1 : W2.cell? ⟨wr.heap.size, 1, none⟩ = some (.int .i64 y1) := BV.cell 1
              have v2 : W2.cell? ⟨wr.heap.size, 2, none⟩ = some (.int .i64 y2) := BV.cell 2
              have v3 : W2.cell? ⟨wr.heap.size, 3, none⟩ = some (.int .i64 y3) := BV.cell 3
              go_region_held3 (fun w' => w'.cell? ⟨w.heap.size, 0, none⟩ = some (.pointer (some ⟨g, 0, none⟩)) ∧ w'.cell? ⟨wr.heap.size, 0, none⟩ = some (.int .i64 y0) ∧ w'.cell? ⟨wr.heap.size, 1, none⟩ = some (.int .i64 y1) ∧ w'.cell? ⟨wr.heap.size, 2, none⟩ = some (.int .i64 y2) ∧ w'.cell? ⟨wr.heap.size, 3, none⟩ = some (.int .i64 y3))
                (first
                  | exact ⟨(hkz.bk (BP.below hc4) (by decide) (by decide)).cell 0, (hkz.bk (BV.below hc4) (by decide) (by decide)).cell 0, (hkz.bk (BV.below hc4) (by decide) (by decide)).cell 1, (hkz.bk (BV.below hc4) (by decide) (by decide)).cell 2, (hkz.bk (BV.below hc4) (by decide) (by decide)).cell 3⟩
                  | exact ⟨cellA _ (cellB hc4 p0), cellA _ (cellB hc4 v0), cellA _ (cellB hc4 v1), cellA _ (cellB hc4 v2), cellA _ (cellB hc4 v3)⟩
                  | exact ⟨cellB hc4 p0, cellB hc4 v0, cellB hc4 v1, cellB hc4 v2, cellB hc4 v3⟩
                  | exact ⟨cellB hc3 p0, cellB hc3 v0, cellB hc3 v1, cellB hc3 v2, cellB hc3 v3⟩
                  | exact ⟨cellB hc2 p0, cellB hc2 v0, cellB hc2 v1, cellB hc2 v2, cellB hc2 v3⟩
                  | go_keep)
                (first
                  | (go_at_call 47; refine (anchorName_ok _ y0 hT2.drew).mono ?_; rintro e w' ⟨rfl, rfl⟩)
                  | (go_at_call 21; refine (number_ok _ y1 hT2.drew r1).mono ?_; rintro e w2 ⟨rfl, hb2⟩; have hc2 := unDrew hb2; have z2 := hc2.size)
                  | (go_at_call 21; refine (number_ok _ y2 (hT2.all hc2) r2).mono ?_; rintro e w3 ⟨rfl, hb3⟩; have hc3 := bt hc2 hb3; have z3 := hc3.size)
                  | (go_at_call 21; refine (number_ok _ y3 (hT2.all hc3) r3).mono ?_; rintro e w4 ⟨rfl, hb4⟩; have hc4 := bt hc3 hb4; have z4 := hc4.size)
                  | (go_at_call 20; refine (line_lit w4 w4.heap.size 4 rfl Bd g fc _ sAnchor [pick anchorNames y0, itB y1, itB y2, itB y3] rfl (hpr2.below hc4) hll).mono ?_; rintro e wz ⟨rfl, hpz, hkz, hbz⟩))
              go_wp2
              go_roundw
              case rel => exact ⟨k + 1, by omega, by simp, by rw [hsn.out, ← List.append_assoc]; exact hpz, Hgy.out.2.1.trans ((KP.below (bt hb0 hc4)).trans hkz), Hgy.out.2.2.trans (((bt hb0 hc4).mono hzr).trans hbz)⟩
              case measure => simp [intOf]; omega
            · obtain rfl : k = x.anchors.length := by omega
              rw [List.take_length] at hgy
              have Hgy := Lib.hid hgy
              have l85 : W1.cell? ⟨w.heap.size + 1, 7, none⟩ = some (.slice A7 x.deltas.length c7) := (hkW1.bk B1 (by decide) (by decide)).cell 7
              have l85' : wr.cell? ⟨w.heap.size + 1, 7, none⟩ = some (.slice A7 x.deltas.length c7) := (hgy.2.1.bk BW1 (by decide) (by decide)).cell 7
              go_wp2_with fail
              go_loopw [85] (fun i wr => ∃ k : Nat, k ≤ x.deltas.length ∧ i = .int .i64 k ∧ GyI w W1 Bd g fc (txt ++ T1 ++ T2 ++ x.parts.flatMap (partB gs) ++ x.anchors.flatMap anchB ++ (x.deltas.take k).flatMap delB) wr) (fun i _ => x.deltas.length - (intOf i).toNat)
              case atStart => exact ⟨0, Nat.zero_le _, rfl, by simpa using Hgy.out⟩
              case round =>
                obtain ⟨k, hk, rfl, hgy⟩ := hrel
                by_cases hlt : k < x.deltas.length
                · have hkr : KP w wr := hkw1.trans hgy.2.1
                  have hkb : k ≤ 10000000000 := Nat.le_trans (Nat.le_of_lt hlt) h85n
                  obtain ⟨b, o, y, rfl, -, hy, q0, q1, q2, q3, r0, r1, r2, r3⟩ := (hkr.sl DeltaR.ok h7).delta hlt
                  have hsn := Lib.hid (flat_take_snoc delB x.deltas k y hy.out)
                  have hle := flatB_take_succ_le delB x.deltas k y hy.out
                  obtain ⟨y0, y1, y2, y3⟩ := y
                  dsimp only at q0 q1 q2 q3 r0 r1 r2 r3
                  have hll : (txt ++ T1 ++ T2 ++ x.parts.flatMap (partB gs) ++ x.anchors.flatMap anchB ++ (x.deltas.take k).flatMap delB).length + (lineB sDelta [itB y0, itB y1, itB y2, itB y3]).length ≤ 10000000000 := by
                    have e : delB ⟨y0, y1, y2, y3⟩ = lineB sDelta [itB y0, itB y1, itB y2, itB y3] := rfl
                    rw [e] at hle
                    simp only [List.length_append]
                    omega
                  have BPr := hgy.2.1.bk BP1 (by decide) (by decide)
                  have hTr : Tabs wr := hT.below hgy.2.2 hG
                  have hPr : PN wr g gs := (hP.below hbW).kp hp0 hgy.1 (hkW1.trans hgy.2.1)
                  have hzr := Nat.le_trans (Nat.le_trans hBd z0) (hkW1.trans hgy.2.1).size
                  have Hgy := Lib.hid hgy
                  have hpr := hgy.1
                  clear hy hle hgy hkr
                  go_wp2_with fail
                  obtain ⟨W2, hW2⟩ : ∃ W2, wr.alloc (.cells #[.int .i64 y0, .int .i64 y1, .int .i64 y2, .int .i64 y3] 70) = W2 := ⟨_, rfl⟩
                  rw [hW2]
                  have hb0 : Below wr.heap.size wr W2 := by rw [← hW2]; exact (Below.refl _ _).alloc (Nat.le_refl _) _
                  have BV : Bk W2 wr.heap.size 70 #[.int .i64 y0, .int .i64 y1, .int .i64 y2, .int .i64 y3] := by rw [← hW2]; exact Bk.new _ _ _
                  have zz0 := hb0.size
                  clear hW2 q0 q1 q2 q3
                  have BP := BPr.below hb0
                  have hT2 := hTr.all hb0
                  have hPd : PN W2.drew g gs := (hPr.below hb0).below (Below.refl _ _).drew
                  have hpr2 := hpr.below hb0
                  have p0 : W2.cell? ⟨w.heap.size, 0, none⟩ = some (.pointer (some ⟨g, 0, none⟩)) := BP.cell 0
                  have v0 : W2.cell? ⟨wr.heap.size, 0, none⟩ = some (.int .i64 y0) := BV.cell 0
                  have v1 : W2.cell? ⟨wr.heap.size, 1, none⟩ = some (.int .i64 y1) := BV.cell 1
                  have v2 : W2.cell? ⟨wr.heap.size, 2, none⟩ = some (.int .i64 y2) := BV.cell 2
                  have v3 : W2.cell? ⟨wr.heap.size, 3, none⟩ = some (.int .i64 y3) := BV.cell 3
                  go_region_held3 (fun w' => w'.cell? ⟨w.heap.size, 0, none⟩ = some (.pointer (some ⟨g, 0, none⟩)) ∧ w'.cell? ⟨wr.heap.size, 0, none⟩ = some (.int .i64 y0) ∧ w'.cell? ⟨wr.heap.size, 1, none⟩ = some (.int .i64 y1) ∧ w'.cell? ⟨wr.heap.size, 2, none⟩ = some (.int .i64 y2) ∧ w'.cell? ⟨wr.heap.size, 3, none⟩ = some (.int .i64 y3))
                    (first
                      | exact ⟨(hkz.bk (BP.below hc4) (by decide) (by decide)).cell 0, (hkz.bk (BV.below hc4) (by decide) (by decide)).cell 0, (hkz.bk (BV.below hc4) (by decide) (by decide)).cell 1, (hkz.bk (BV.below hc4) (by decide) (by decide)).cell 2, (hkz.bk (BV.below hc4) (by decide) (by decide)).cell 3⟩
                      | exact ⟨cellA _ (cellB hc4 p0), cellA _ (cellB hc4 v0), cellA _ (cellB hc4 v1), cellA _ (cellB hc4 v2), cellA _ (cellB hc4 v3)⟩
                      | exact ⟨cellB hc4 p0, cellB hc4 v0, cellB hc4 v1, cellB hc4 v2, cellB hc4 v3⟩
                      | exact ⟨cellB hc3 p0, cellB hc3 v0, cellB hc3 v1, cellB hc3 v2, cellB hc3 v3⟩
                      | exact ⟨cellB hc2 p0, cellB hc2 v0, cellB hc2 v1, cellB hc2 v2, cellB hc2 v3⟩
                      | exact ⟨cellB hc1 p0, cellB hc1 v0, cellB hc1 v1, cellB hc1 v2, cellB hc1 v3⟩
                      | go_keep)
                    (first
                      | (go_at_call 21; refine (number_ok _ y0 hT2.drew r0).mono ?_; rintro e w1 ⟨rfl, hb1⟩; have hc1 := unDrew hb1; have z1 := hc1.size)
                      | (go_at_call 21; refine (number_ok _ y1 (hT2.all hc1) r1).mono ?_; rintro e w2 ⟨rfl, hb2⟩; have hc2 := bt hc1 hb2; have z2 := hc2.size)
                      | (go_at_call 21; refine (number_ok _ y2 (hT2.all hc2) r2).mono ?_; rintro e w3 ⟨rfl, hb3⟩; have hc3 := bt hc2 hb3; have z3 := hc3.size)
                      | (go_at_call 21; refine (number_ok _ y3 (hT2.all hc3) r3).mono ?_; rintro e w4 ⟨rfl, hb4⟩; have hc4 := bt hc3 hb4; have z4 := hc4.size)
                      | (go_at_call 20; refine (line_lit w4 w4.heap.size 4 rfl Bd g fc _ sDelta [itB y0, itB y1, itB y2, itB y3] rfl (hpr2.below hc4) hll).mono ?_; rintro e wz ⟨rfl, hpz, hkz, hbz⟩))
                  go_wp2
                  go_roundw
                  case rel => exact ⟨k + 1, by omega, by simp, by rw [hsn.out, ← List.append_assoc]; exact hpz, Hgy.out.2.1.trans ((KP.below (bt hb0 hc4)).trans hkz), Hgy.out.2.2.trans (((bt hb0 hc4).mono hzr).trans hbz)⟩
                  case measure => simp [intOf]; omega
                · obtain rfl : k = x.deltas.length := by omega
                  rw [List.take_length] at hgy
                  have Hgy := Lib.hid hgy
                  have l8 : wr.cell? ⟨w.heap.size + 1, 8, none⟩ = some (.slice A8 x.hint.length c8) := (hgy.2.1.bk BW1 (by decide) (by decide)).cell 8
                  have hzr := Nat.le_trans (Nat.le_trans hBd z0) (hkW1.trans hgy.2.1).size
                  have BPr := hgy.2.1.bk BP1 (by decide) (by decide)
                  have p0 : wr.cell? ⟨w.heap.size, 0, none⟩ = some (.pointer (some ⟨g, 0, none⟩)) := BPr.cell 0
                  have hTr : Tabs wr := hT.below hgy.2.2 hG
                  have h8r := (hkw1.trans hgy.2.1).sl InsR.ok h8
                  clear hgy
                  by_cases h0 : x.hint = []
                  · have hz : hintB x.hint = [] := by rw [h0]; rfl
                    have hz0 : ¬ (0 < x.hint.length) := by rw [h0]; simp
                    have Hz := Lib.hid hz
                    clear hz h0
                    go_wp2_with fail
                    rw [Hz.out, List.append_nil]
                    have hD2 : wr.heap[D]? = some (.deferred (some [])) := (Hgy.out.2.1).same D _ hK trivial
                    refine ⟨by simp, .inl ⟨_, _, rfl, run_takeDeferred hD2, ?_⟩⟩
                    have hgr := grownBy_putObj' wr D (.deferred none)
                    refine ⟨_, results_none rfl _ _ _, rfl, pr_put (by have := Hgy.out.1; simpa using this) hgr (fun r e => by cases e; exact ⟨_, hD2, rfl⟩), kp_put (hkw1.trans (Hgy.out.2.1)) hgr (fun r e => by cases e; exact Nat.le_trans hsw hD), (Hgy.out.2.2).grown hgr (by omega) (fun r e => by cases e; omega)⟩
                  · have hz : hintB x.hint = lineB sHint (x.hint.map insB) := by unfold hintB; rw [if_neg (by simpa using h0)]
                    have hz0 : 0 < x.hint.length := List.length_pos_iff.2 h0
                    have hll : (txt ++ T1 ++ T2 ++ x.parts.flatMap (partB gs) ++ x.anchors.flatMap anchB ++ x.deltas.flatMap delB).length + (lineB sHint (x.hint.map insB)).length ≤ 1000000000000 := by rw [← hz]; simp only [List.length_append]; omega
                    have Hz := Lib.hid hz
                    have hpr := Hgy.out.1
                    clear hz h0
                    have hsd : Sl InsR 2 wr.drew (FT wr.drew) A8 x.hint := (KP.below (Below.refl _ _).drew).sl InsR.ok h8r
                    have hgy2 := Hgy.out
                    have BHr := hgy2.2.1.bk BW1 (by decide) (by decide)
                    have hnl : Hid (x.hint.length = (x.hint.map insB).length) := Lib.hid (List.length_map insB).symm
                    have hhw : (x.hint.map insB).length ≤ 1000000000000 := by rw [List.length_map]; omega
                    go_wp2_with fail
                    go_region_held3 (fun w' => w'.cell? ⟨w.heap.size, 0, none⟩ = some (.pointer (some ⟨g, 0, none⟩)) ∧ w'.cell? ⟨w.heap.size + 1, 8, none⟩ = some (.slice A8 x.hint.length c8))
                      (first
                        | exact ⟨(hkz.bk (BPr.below hc1) (by decide) (by decide)).cell 0, (hkz.bk (BHr.below hc1) (by decide) (by decide)).cell 8⟩
                        | exact ⟨cellB hc1 p0, cellB hc1 l8⟩
                        | go_keep)
                      (first
                        | (go_at_call 24; refine (instructions_ok _ A8 c8 x.hint hTr.drew hsd (by omega)).mono ?_; rintro e w1 ⟨Aw, cw, rfl, how, hb1⟩; have hc1 := unDrew hb1; have z1 := hc1.size)
                        | (go_at_call 20; refine (line_n w1 Bd g fc _ sHint Aw cw x.hint.length (x.hint.map insB) hnl.out (hpr.below hc1) (own_sl how) ⟨hll, hhw⟩).mono ?_; rintro e wz ⟨rfl, hpz, hkz, hbz⟩))
                    go_wp2_with fail
                    rw [Hz.out]
                    have hkzz := Hgy.out.2.1.trans ((KP.below hc1).trans hkz)
                    have hbzz := Hgy.out.2.2.trans ((hc1.mono hzr).trans hbz)
                    have hszz := hkzz.size
                    have hD2 : wz.heap[D]? = some (.deferred (some [])) := (hkzz).same D _ hK trivial
                    refine ⟨by simp, .inl ⟨_, _, rfl, run_takeDeferred hD2, ?_⟩⟩
                    have hgr := grownBy_putObj' wz D (.deferred none)
                    refine ⟨_, results_none rfl _ _ _, rfl, pr_put (by have := hpz; simpa using this) hgr (fun r e => by cases e; exact ⟨_, hD2, rfl⟩), kp_put (hkw1.trans (hkzz)) hgr (fun r e => by cases e; exact Nat.le_trans hsw hD), (hbzz).grown hgr (by omega) (fun r e => by cases e; omega)⟩
end Go.Proofs.YtkijckccfookeaaDoor
