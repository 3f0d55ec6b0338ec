/- Plain Lean: each statement of a right font's source, read. -/
import Derived.Test.YtkijckccfookeaaGreatDoorM31
import Derived.Test.YtkijckccfookeaaGreatDoorM28
import Derived.Test.YtkijckccfookeaaGreatDoorPbF
import Derived.Test.YtkijckccfookeaaGreatDoorM30
import Derived.Test.YtkijckccfookeaaGreatDoorM19
import Derived.Test.YtkijckccfookeaaGreatDoorPaS
import Derived.Test.YtkijckccfookeaaGreatDoorM23
import Derived.Test.YtkijckccfookeaaGreatDoorM17
import Derived.Test.YtkijckccfookeaaGreatDoorPaK
namespace Go.Proofs.YtkijckccfookeaaGreatDoor
open Go.RowKit

theorem kind_facts : ∀ k : Fin 8, ∃ s, kindNames[k.val]? = some s ∧ kindN kindNames s = (k.val : Int) + 1 ∧ tokB s = true := by decide +kernel
theorem anch_facts : ∀ k : Fin 4, ∃ s, anchorNames[k.val]? = some s ∧ kindN anchorNames s = (k.val : Int) + 1 ∧ tokB s = true := by decide +kernel
theorem rtKind_ok (n : Int) (h1 : 1 ≤ n) (h2 : n ≤ 8) : kindN kindNames (pick kindNames n) = n ∧ tokB (pick kindNames n) = true := by
  obtain ⟨s, e1, e2, e3⟩ := kind_facts ⟨(n - 1).toNat, by omega⟩
  have : pick kindNames n = s := by
    unfold pick
    rw [if_neg (by omega)]
    simp only at e1
    rw [e1]
    rfl
  rw [this]
  simp only at e2
  exact ⟨by omega, e3⟩
theorem rtAnch_ok (n : Int) (h1 : 1 ≤ n) (h2 : n ≤ 4) : kindN anchorNames (pick anchorNames n) = n ∧ tokB (pick anchorNames n) = true := by
  obtain ⟨s, e1, e2, e3⟩ := anch_facts ⟨(n - 1).toNat, by omega⟩
  have : pick anchorNames n = s := by
    unfold pick
    rw [if_neg (by omega)]
    simp only at e1
    rw [e1]
    rfl
  rw [this]
  simp only at e2
  exact ⟨by omega, e3⟩
section
variable (gl : Gl) (s : PS) (r : List B)
theorem st_unit : stmt gl s (sUnit :: r) = rUnit s r := by simp [stmt]
theorem st_axis : stmt gl s (sAxis :: r) = rAxis s r := by simp [stmt]
theorem st_region : stmt gl s (sRegion :: r) = rRegion s r := by simp [stmt]
theorem st_cvt : stmt gl s (sCvt :: r) = rCvt s r := by simp [stmt]
theorem st_func : stmt gl s (sFunc :: r) = rFunc s r := by simp [stmt]
theorem st_class : stmt gl s (sClass :: r) = rClass gl s r := by simp [stmt]
theorem st_glyph : stmt gl s (sGlyph :: r) = rGlyph gl s r := by simp [stmt]
theorem st_contour : stmt gl s (sContour :: r) = rContour s r := by simp [stmt]
theorem st_part : stmt gl s (sPart :: r) = rPart gl s r := by simp [stmt]
theorem st_anchor : stmt gl s (sAnchor :: r) = rAnchor s r := by simp [stmt]
theorem st_delta : stmt gl s (sDelta :: r) = rDelta s r := by simp [stmt]
theorem st_hint : stmt gl s (sHint :: r) = rHint s r := by simp [stmt]
theorem st_char : stmt gl s (sChar :: r) = rChar gl s r := by simp [stmt]
theorem st_lookup : stmt gl s (sLookup :: r) = rLookup s r := by simp [stmt]
theorem st_rule : stmt gl s (sRule :: r) = rRule gl s r := by simp [stmt]
theorem st_feature : stmt gl s (sFeature :: r) = rFeature s r := by simp [stmt]
end
theorem outW_ok {gl : Gl} {gs : List Glyph} (h : GlOk gl gs) (kind : Int) (r : Rule) (hr : OkR gs.length kind r) : ∀ w ∈ outW gs kind r, w ≠ [47] ∧ w ≠ [62] ∧ tokB w = true := by
  have num : ∀ (n : Int), itB n ≠ [47] ∧ itB n ≠ [62] ∧ tokB (itB n) = true := fun n => ⟨fun e => by
    have := it_c n 47 (by rw [e]; simp)
    revert this
    decide, fun e => by
    have := it_c n 62 (by rw [e]; simp)
    revert this
    decide, it_tok n⟩
  intro w hw
  unfold outW at hw
  split at hw
  · rw [List.mem_map] at hw
    obtain ⟨n, hn, rfl⟩ := hw
    have h1 := (gn_ok h (hr.out n hn)).2
    have := name_br h1
    exact ⟨this.2.2.1, this.2.2.2, name_tok h1⟩
  · split at hw
    · rw [List.mem_map] at hw
      obtain ⟨c, hc, rfl⟩ := hw
      have hc58 : (58 : UInt8) ∈ itB c.at' ++ 58 :: itB c.lookup := by simp
      refine ⟨fun e => ?_, fun e => ?_, (rtCall_ok c (hr.calls c hc) 0).2.2.2⟩
      · rw [e] at hc58; revert hc58; decide
      · rw [e] at hc58; revert hc58; decide
    · split at hw
      · simp only [List.mem_singleton] at hw
        subst hw
        exact num r.x
      · simp at hw
theorem sets_ids {n : Nat} (l : List (List Int)) (hl : ∀ x ∈ l, OkS n x) : l.map setOf = l := by
  conv => rhs; rw [← List.map_id l]
  exact List.map_congr_left (fun x hx => setOf_id x (hl x hx).1)
/-- words of sets: no sign of a rule among them, read as the sets' names -/
def SetWs (gs : List Glyph) (ws : List B) (l : List (List Int)) : Prop := (∀ w ∈ ws, w ≠ [47] ∧ w ≠ [62]) ∧ setsT ws = some (l.map (fun s => s.map (gnB gs)))
theorem rule_core {gl : Gl} {gs : List Glyph} (h : GlOk gl gs) (hn : gs.length ≤ 1000) (s : PS) (lk : Lookup) (hl : s.f.lookups.getLast? = some lk) (hk : 1 ≤ lk.kind ∧ lk.kind ≤ 8) (r : Rule) (hr : OkR gs.length lk.kind r)
    (u0 u1 u2 : List B) (h0 : SetWs gs u0 r.back) (h1 : SetWs gs u1 r.in') (h2 : SetWs gs u2 r.ahead) :
    rRule gl s (u0 ++ [47] :: u1 ++ [47] :: u2 ++ [62] :: outW gs lk.kind r) = .ok (onLastL s fun lk => { lk with rules := lk.rules ++ [r] }) := by
  have hi : ∀ l : List (List Int), (∀ x ∈ l, OkS gs.length x) → (∀ x ∈ l, ∀ n ∈ x, In gs.length n) ∧ (∀ x ∈ l, (∀ n ∈ x, In gs.length n) ∧ x.length ≤ 1000) ∧ l.map setOf = l := fun l hl => by
    refine ⟨fun x hx => (hl x hx).2, fun x hx => ⟨(hl x hx).2, Nat.le_trans (oks_len (hl x hx)) hn⟩, ?_⟩
    conv => rhs; rw [← List.map_id l]
    exact List.map_congr_left (fun x hx => setOf_id x (hl x hx).1)
  obtain ⟨a1, a2, a3⟩ := hi _ hr.back
  obtain ⟨b1, b2, b3⟩ := hi _ hr.in'
  obtain ⟨c1, c2, c3⟩ := hi _ hr.ahead
  have hp : partsT (u0 ++ [47] :: u1 ++ [47] :: u2 ++ [62] :: outW gs lk.kind r) = some [u0, u1, u2, outW gs lk.kind r] :=
    parts_ok _ _ _ _ h0.1 h1.1 h2.1 (fun w hw => ⟨(outW_ok h _ r hr w hw).1, (outW_ok h _ r hr w hw).2.1⟩)
  unfold rRule
  simp only [hl, hp, h0.2, h1.2, h2.2, rowsGo_names h s.cls _ a2, rowsGo_names h s.cls _ b2, rowsGo_names h s.cls _ c2, List.length_map, a3, b3, c3]
  clear h0 h1 h2 hp
  obtain ⟨q1, q2⟩ := eGls_ok h r.out hr.out 0
  obtain ⟨d1, d2, d3, -⟩ := rtCalls_ok r.calls hr.calls 0
  have x1 := eNum_ok r.x hr.x 0
  have x2 := (it_num r.x hr.x).2
  have hcases : lk.kind = 1 ∨ lk.kind = 2 ∨ lk.kind = 3 ∨ lk.kind = 4 ∨ lk.kind = 5 ∨ lk.kind = 6 ∨ lk.kind = 7 ∨ lk.kind = 8 := by omega
  have hone := hr.one
  have houts := hr.outs
  have hnoC := hr.noC
  have hnoX := hr.noX
  have hin := hr.in'
  cases r with
  | mk rb ri ra ro rc rx =>
  simp only at *
  rcases hcases with e | e | e | e | e | e | e | e <;> rw [e] at hone houts hnoC hnoX ⊢
  case inl =>
    obtain ⟨t, rfl, ht⟩ := hone (by simp)
    have hs := (hin t (by simp)).1
    simp [areOut, outW, q1, q2, rtSortOut_ok t ro hs ht, hnoC, hnoX]
  case inr.inl => simp [areOut, outW, q1, q2, hnoC, hnoX]
  case inr.inr.inl => simp [areOut, outW, q1, q2, hnoC, hnoX]
  case inr.inr.inr.inl =>
    have := houts (by simp)
    subst this
    simp [areOut, outW, d1, d2, d3, hnoX]
  case inr.inr.inr.inr.inl =>
    obtain ⟨t, rfl, ht⟩ := hone (by simp)
    have hs := (hin t (by simp)).1
    simp [areOut, outW, q1, q2, rtSortOut_ok t ro hs ht, hnoC, hnoX]
  case inr.inr.inr.inr.inr.inl =>
    have := houts (by simp)
    subst this
    simp [areOut, outW, eNums, x1, x2, hnoC]
  case inr.inr.inr.inr.inr.inr.inl =>
    have := houts (by simp)
    subst this
    simp [areOut, outW, hnoC, hnoX]
  case inr.inr.inr.inr.inr.inr.inr =>
    have := houts (by simp)
    subst this
    simp [areOut, outW, hnoC, hnoX]
theorem setsW_ws {gl : Gl} {gs : List Glyph} (h : GlOk gl gs) (l : List (List Int)) (hl : ∀ s ∈ l, ∀ n ∈ s, In gs.length n) : SetWs gs (setsW gs l) l :=
  ⟨fun w hw => ⟨(setW_words h _ hl w hw).1, (setW_words h _ hl w hw).2.1⟩, setsT_ok h _ hl⟩
theorem rtRule_ok {gl : Gl} {gs : List Glyph} (h : GlOk gl gs) (hn : gs.length ≤ 1000) (s : PS) (lk : Lookup) (hl : s.f.lookups.getLast? = some lk) (hk : 1 ≤ lk.kind ∧ lk.kind ≤ 8) (r : Rule) (hr : OkR gs.length lk.kind r) :
    rRule gl s (ruleW gs lk.kind r) = .ok (onLastL s fun lk => { lk with rules := lk.rules ++ [r] }) :=
  rule_core h hn s lk hl hk r hr _ _ _ (setsW_ws h _ fun x hx => (hr.back x hx).2) (setsW_ws h _ fun x hx => (hr.in' x hx).2) (setsW_ws h _ fun x hx => (hr.ahead x hx).2)
/-- sets that stand in brackets, all of them -/
def setsV (gs : List Glyph) (l : List (List Int)) : List B := l.flatMap (fun s => [91] :: s.map (gnB gs) ++ [[93]])
theorem setsV_words {gl : Gl} {gs : List Glyph} (h : GlOk gl gs) (l : List (List Int)) (hl : ∀ s ∈ l, ∀ n ∈ s, In gs.length n) : ∀ w ∈ setsV gs l, w ≠ [47] ∧ w ≠ [62] ∧ tokB w = true := by
  intro w hw
  simp only [setsV, List.mem_flatMap, List.cons_append, List.mem_cons, List.mem_append, List.mem_map, List.not_mem_nil, or_false] at hw
  obtain ⟨s, hs, hw⟩ := hw
  rcases hw with rfl | ⟨n, hn, rfl⟩ | rfl
  · decide
  · have h1 := (gn_ok h (hl s hs n hn)).2
    have := name_br h1
    exact ⟨this.2.2.1, this.2.2.2, name_tok h1⟩
  · decide
theorem setsV_ws {gl : Gl} {gs : List Glyph} (h : GlOk gl gs) (l : List (List Int)) (hl : ∀ s ∈ l, ∀ n ∈ s, In gs.length n) : SetWs gs (setsV gs l) l := by
  refine ⟨fun w hw => ⟨(setsV_words h _ hl w hw).1, (setsV_words h _ hl w hw).2.1⟩, ?_⟩
  suffices key : ∀ told, setsGoT false [] told (setsV gs l) = some (told ++ l.map (fun s => s.map (gnB gs))) by simpa [setsT] using key []
  induction l with
  | nil => intro told; simp [setsV, setsGoT]
  | cons s r ih =>
    intro told
    have e : setsV gs (s :: r) = [91] :: (s.map (gnB gs) ++ [93] :: setsV gs r) := by simp [setsV]
    have hb : ∀ w ∈ s.map (gnB gs), w ≠ [91] ∧ w ≠ [93] := fun w hw => by
      rw [List.mem_map] at hw
      obtain ⟨n, hn, rfl⟩ := hw
      have := name_br (gn_ok h (hl s (by simp) n hn)).2
      exact ⟨this.1, this.2.1⟩
    rw [e, setsGoT, if_pos rfl]
    simp only [Bool.false_eq_true, if_false]
    rw [setsT_in _ hb, ih (fun x hx => hl x (by simp [hx]))]
    simp
end Go.Proofs.YtkijckccfookeaaGreatDoor
/- parse: one statement, whichever it is. Printed by gen_pbn.py. -/
namespace Go.Proofs.YtkijckccfookeaaGreatDoor
open Go.RowKit

theorem LnAt.drew {w : World} {A : Option Addr} {n : Nat} {ws : List P3} (h : LnAt w A n ws) : LnAt w.drew A n ws := ⟨h.rd.below (Below.refl _ w).drew, h.len, h.few⟩
theorem PTabs.drew {w : World} (h : PTabs w) : PTabs w.drew := h.below (Below.refl _ w).drew
/-- how a statement's function is called: with the parser, or with its boxes -/
def StmtCall (f : B → Option Value) (w : World) (Bd p gm cm : Nat) (gl : Gl) (s : PS) (K : Nat) (A : Option Addr) (n c : Nat) (t : B) (l : List B) : Prop :=
  (f t = none ∧ stmt gl s (t :: l) = .error 22) ∨
  (∃ F, f t = some (pV p F) ∧ (∀ (args : Array Value) (w : World), (callFunc F args).run Tryz.prog w = .ok (.enter F args) w) ∧ Calls Tryz.prog F #[.pointer (some ⟨p, 0, none⟩), .slice A n c] w (StPost w Bd p gm cm gl (K + n) (stmt gl s (t :: l)))) ∨
  (∃ F a b, f t = some (cV F a b) ∧ (∀ (args : Array Value) (w : World), (callFunc F args).run Tryz.prog w = .ok (.enter F args) w) ∧ Calls Tryz.prog F #[.slice A n c, .pointer (some ⟨a, 0, none⟩), .pointer (some ⟨b, 0, none⟩)] w (StPost w Bd p gm cm gl (K + n) (stmt gl s (t :: l))))
theorem stmt_call {f : B → Option Value} {M : Nat} {aContour bContour aPart bPart aAnchor bAnchor aDelta bDelta aHint bHint aRule bRule : Nat} (w : World) (Bd p gm cm : Nat) (gl : Gl) (s : PS) (rv : Rows) (K : Nat) (A : Option Addr) (n c : Nat) (ws : List P3) (t : B) (l : List B) (hM : TabOk w p M f aContour bContour aPart bPart aAnchor bAnchor aDelta bDelta aHint bHint aRule bRule) (hP : PSt w Bd p gm cm gl s rv K) (hL : LnAt w A n ws) (hT : txts ws = t :: l) (hK9 : K ≤ 1000000000) (hc : n ≤ c) (hTb : PTabs w) (hnT : nT ≤ Bd) :
    StmtCall f w Bd p gm cm gl s K A n c t l := by
  have hK : K ≤ 10000000000 := by omega
  by_cases hUnit : t = sUnit
  · subst hUnit
    refine .inr (.inl ⟨73, hM.fUnit, fun _ _ => enters_of Tryz.func73 (by kernel_rfl) rfl _ _, ?_⟩)
    rw [st_unit]
    exact readUnit_ok w Bd p gm cm gl s rv K A n c ws _ l hP hL hT 
  by_cases hAxis : t = sAxis
  · subst hAxis
    refine .inr (.inl ⟨74, hM.fAxis, fun _ _ => enters_of Tryz.func74 (by kernel_rfl) rfl _ _, ?_⟩)
    rw [st_axis]
    exact readAxis_ok w Bd p gm cm gl s rv K A n c ws _ l hP hL hT hK
  by_cases hRegion : t = sRegion
  · subst hRegion
    refine .inr (.inl ⟨75, hM.fRegion, fun _ _ => enters_of Tryz.func75 (by kernel_rfl) rfl _ _, ?_⟩)
    rw [st_region]
    exact readRegion_ok w Bd p gm cm gl s rv K A n c ws _ l hP hL hT hK hc
  by_cases hCvt : t = sCvt
  · subst hCvt
    refine .inr (.inl ⟨76, hM.fCvt, fun _ _ => enters_of Tryz.func76 (by kernel_rfl) rfl _ _, ?_⟩)
    rw [st_cvt]
    exact readCvt_ok w Bd p gm cm gl s rv K A n c ws _ l hP hL hT hK hc
  by_cases hFunc : t = sFunc
  · subst hFunc
    refine .inr (.inl ⟨77, hM.fFunc, fun _ _ => enters_of Tryz.func77 (by kernel_rfl) rfl _ _, ?_⟩)
    rw [st_func]
    exact readFunc_ok w Bd p gm cm gl s rv K A n c ws _ l hP hL hT hK hc hTb hnT
  by_cases hClass : t = sClass
  · subst hClass
    refine .inr (.inl ⟨78, hM.fClass, fun _ _ => enters_of Tryz.func78 (by kernel_rfl) rfl _ _, ?_⟩)
    rw [st_class]
    exact readClass_ok w Bd p gm cm gl s rv K A n c ws _ l hP hL hT hc
  by_cases hGlyph : t = sGlyph
  · subst hGlyph
    refine .inr (.inl ⟨79, hM.fGlyph, fun _ _ => enters_of Tryz.func79 (by kernel_rfl) rfl _ _, ?_⟩)
    rw [st_glyph]
    exact readGlyph_ok w Bd p gm cm gl s rv K A n c ws _ l hP hL hT hK
  by_cases hContour : t = sContour
  · subst hContour
    refine .inr (.inr ⟨129, aContour, bContour, hM.fContour, fun _ _ => enters_of Tryz.func129 (by kernel_rfl) rfl _ _, ?_⟩)
    rw [st_contour]
    exact ofGlyph1_ok 81 (fun _ _ => enters_of Tryz.func81 (by kernel_rfl) rfl _ _) w Bd p gm cm gl s rv K (K + n) A n c aContour bContour (rContour s l) hP (hM.xContour.par.cell 0) (hM.xContour.fn.cell 0) (fun e => by unfold rContour; rw [if_pos e])
      (fun init g hs G n0 c9 h0 => readContour_ok w.drew Bd p gm cm gl s rv K A n c ws _ l (hP.drewN 1) hL.drew hT hK9 hc hs h0 rfl) hK
  by_cases hPart : t = sPart
  · subst hPart
    refine .inr (.inr ⟨129, aPart, bPart, hM.fPart, fun _ _ => enters_of Tryz.func129 (by kernel_rfl) rfl _ _, ?_⟩)
    rw [st_part]
    exact ofGlyph1_ok 82 (fun _ _ => enters_of Tryz.func82 (by kernel_rfl) rfl _ _) w Bd p gm cm gl s rv K (K + n) A n c aPart bPart (rPart gl s l) hP (hM.xPart.par.cell 0) (hM.xPart.fn.cell 0) (fun e => by unfold rPart; rw [if_pos e])
      (fun init g hs G n0 c9 h0 => readPart_ok w.drew Bd p gm cm gl s rv K A n c ws _ l (hP.drewN 1) hL.drew hT hK hs h0 rfl) hK
  by_cases hAnchor : t = sAnchor
  · subst hAnchor
    refine .inr (.inr ⟨129, aAnchor, bAnchor, hM.fAnchor, fun _ _ => enters_of Tryz.func129 (by kernel_rfl) rfl _ _, ?_⟩)
    rw [st_anchor]
    exact ofGlyph1_ok 83 (fun _ _ => enters_of Tryz.func83 (by kernel_rfl) rfl _ _) w Bd p gm cm gl s rv K (K + n) A n c aAnchor bAnchor (rAnchor s l) hP (hM.xAnchor.par.cell 0) (hM.xAnchor.fn.cell 0) (fun e => by unfold rAnchor; rw [if_pos e])
      (fun init g hs G n0 c9 h0 => readAnchor_ok w.drew Bd p gm cm gl s rv K A n c ws _ l (hP.drewN 1) hL.drew hT hK hTb.drew hs h0 rfl) hK
  by_cases hDelta : t = sDelta
  · subst hDelta
    refine .inr (.inr ⟨129, aDelta, bDelta, hM.fDelta, fun _ _ => enters_of Tryz.func129 (by kernel_rfl) rfl _ _, ?_⟩)
    rw [st_delta]
    exact ofGlyph1_ok 84 (fun _ _ => enters_of Tryz.func84 (by kernel_rfl) rfl _ _) w Bd p gm cm gl s rv K (K + n) A n c aDelta bDelta (rDelta s l) hP (hM.xDelta.par.cell 0) (hM.xDelta.fn.cell 0) (fun e => by unfold rDelta; rw [if_pos e])
      (fun init g hs G n0 c9 h0 => readDelta_ok w.drew Bd p gm cm gl s rv K A n c ws _ l (hP.drewN 1) hL.drew hT hK hc hs h0 rfl) hK
  by_cases hHint : t = sHint
  · subst hHint
    refine .inr (.inr ⟨129, aHint, bHint, hM.fHint, fun _ _ => enters_of Tryz.func129 (by kernel_rfl) rfl _ _, ?_⟩)
    rw [st_hint]
    exact ofGlyph1_ok 85 (fun _ _ => enters_of Tryz.func85 (by kernel_rfl) rfl _ _) w Bd p gm cm gl s rv K (K + n) A n c aHint bHint (rHint s l) hP (hM.xHint.par.cell 0) (hM.xHint.fn.cell 0) (fun e => by unfold rHint; rw [if_pos e])
      (fun init g hs G n0 c9 h0 => readHint_ok w.drew Bd p gm cm gl s rv K A n c ws _ l (hP.drewN 1) hL.drew hT hK hc hTb.drew hnT hs h0 rfl) hK
  by_cases hChar : t = sChar
  · subst hChar
    refine .inr (.inl ⟨86, hM.fChar, fun _ _ => enters_of Tryz.func86 (by kernel_rfl) rfl _ _, ?_⟩)
    rw [st_char]
    exact readChar_ok w Bd p gm cm gl s rv K A n c ws _ l hP hL hT hK
  by_cases hLookup : t = sLookup
  · subst hLookup
    refine .inr (.inl ⟨87, hM.fLookup, fun _ _ => enters_of Tryz.func87 (by kernel_rfl) rfl _ _, ?_⟩)
    rw [st_lookup]
    exact readLookup_ok w Bd p gm cm gl s rv K A n c ws _ l hP hL hT hK hTb
  by_cases hRule : t = sRule
  · subst hRule
    refine .inr (.inr ⟨133, aRule, bRule, hM.fRule, fun _ _ => enters_of Tryz.func133 (by kernel_rfl) rfl _ _, ?_⟩)
    rw [st_rule]
    exact ofLookup1_ok 89 (fun _ _ => enters_of Tryz.func89 (by kernel_rfl) rfl _ _) w Bd p gm cm gl s rv K (K + n) A n c aRule bRule (rRule gl s l) hP (hM.xRule.par.cell 0) (hM.xRule.fn.cell 0) (fun e => by unfold rRule; rw [e]; rfl)
      (fun init g hs G n0 c9 h0 => readRule_ok w.drew Bd p gm cm gl s rv K A n c ws _ l (hP.drewN 1) hL.drew hT hK hc hs h0 rfl) hK
  by_cases hFeature : t = sFeature
  · subst hFeature
    refine .inr (.inl ⟨90, hM.fFeature, fun _ _ => enters_of Tryz.func90 (by kernel_rfl) rfl _ _, ?_⟩)
    rw [st_feature]
    exact readFeature_ok w Bd p gm cm gl s rv K A n c ws _ l hP hL hT hK hc
  refine .inl ⟨hM.none t hUnit hAxis hRegion hCvt hFunc hClass hGlyph hContour hPart hAnchor hDelta hHint hChar hLookup hRule hFeature, ?_⟩
  simp only [stmt, hUnit, hAxis, hRegion, hCvt, hFunc, hClass, hGlyph, hContour, hPart, hAnchor, hDelta, hHint, hChar, hLookup, hRule, hFeature, if_false]
end Go.Proofs.YtkijckccfookeaaGreatDoor
