/- parse: the table of statements. Printed by gen_pbl.py. -/
import Derived.Test.YtkijckccfookeaaGreatDoorL22
namespace Go.Proofs.YtkijckccfookeaaGreatDoor
open Go.RowKit

theorem ofGlyph_ok (w : World) (p F : Nat) : Calls Tryz.prog 80 #[.pointer (some ⟨p, 0, none⟩), .func (.func F) #[.pointer (some ⟨p, 0, none⟩)] #[]] w fun e w' => e = .returned (.func (.func 129) #[] #[.pointer (some ⟨w.heap.size, 0, none⟩), .pointer (some ⟨w.heap.size + 1, 0, none⟩)]) ∧
    w' = (w.alloc (.cells #[.pointer (some ⟨p, 0, none⟩)] 111)).alloc (.cells #[.func (.func F) #[.pointer (some ⟨p, 0, none⟩)] #[]] 160) := by
  go_enter Tryz.func80, Tryz.ntmps80
  go_wp2
  go_ret
  exact ⟨by simp, rfl⟩

theorem ofLookup_ok (w : World) (p F : Nat) : Calls Tryz.prog 88 #[.pointer (some ⟨p, 0, none⟩), .func (.func F) #[.pointer (some ⟨p, 0, none⟩)] #[]] w fun e w' => e = .returned (.func (.func 133) #[] #[.pointer (some ⟨w.heap.size, 0, none⟩), .pointer (some ⟨w.heap.size + 1, 0, none⟩)]) ∧
    w' = (w.alloc (.cells #[.pointer (some ⟨p, 0, none⟩)] 111)).alloc (.cells #[.func (.func F) #[.pointer (some ⟨p, 0, none⟩)] #[]] 162) := by
  go_enter Tryz.func88, Tryz.ntmps88
  go_wp2
  go_ret
  exact ⟨by simp, rfl⟩

/-- a statement of the parser's; one about the last glyph, the last lookup -/
def pV (p F : Nat) : Value := .func (.func F) #[.pointer (some ⟨p, 0, none⟩)] #[]
def cV (F a b : Nat) : Value := .func (.func F) #[] #[.pointer (some ⟨a, 0, none⟩), .pointer (some ⟨b, 0, none⟩)]
/-- a box of the parser, one of the reader -/
structure Boxes2 (w : World) (t : TypeId) (p F a b : Nat) : Prop where
  par : Bk w a 111 #[.pointer (some ⟨p, 0, none⟩)]
  fn : Bk w b t #[pV p F]
theorem Boxes2.below {w w' : World} {t : TypeId} {p F a b : Nat} (h : Boxes2 w t p F a b) (hb : Below w.heap.size w w') : Boxes2 w' t p F a b := ⟨h.par.keep (hb.block _ h.par.lt), h.fn.keep (hb.block _ h.fn.lt)⟩
theorem Boxes2.grown {w w' : World} {t : TypeId} {p F a b m : Nat} (h : Boxes2 w t p F a b) (hg : w.grownBy w' (some m)) (hm : ∃ es c, w.heap[m]? = some (.map es c)) : Boxes2 w' t p F a b := by
  obtain ⟨es, c, hm⟩ := hm
  refine ⟨h.par.keep (hg.block _ h.par.lt fun e => ?_), h.fn.keep (hg.block _ h.fn.lt fun e => ?_)⟩
  · injection e with e
    subst e
    have := h.par
    unfold Bk at this
    rw [hm] at this
    cases this
  · injection e with e
    subst e
    have := h.fn
    unfold Bk at this
    rw [hm] at this
    cases this
theorem Boxes2.new (w : World) (t : TypeId) (p F : Nat) : Boxes2 ((w.alloc (.cells #[.pointer (some ⟨p, 0, none⟩)] 111)).alloc (.cells #[pV p F] t)) t p F w.heap.size (w.heap.size + 1) := by
  refine ⟨(Bk.new w _ _).alloc _, ?_⟩
  have := Bk.new (w.alloc (.cells #[.pointer (some ⟨p, 0, none⟩)] 111)) t #[pV p F]
  simpa using this

theorem mkMapS (w : World) : (Instr.makeMap 117 none).run Tryz.prog w = .ok (.map (some w.heap.size)) (w.alloc (.map #[] 0)) := by
  simp [Instr.makeMap, run_underlying Tryz.underlying117, Result.andThen, newObj, go_sem]
  try rfl
structure TabOk (w : World) (p M : Nat) (f : B → Option Value) (aContour bContour aPart bPart aAnchor bAnchor aDelta bDelta aHint bHint aRule bRule : Nat) : Prop where
  map : MapF embB w M f
  fUnit : f sUnit = some (pV p 73)
  fAxis : f sAxis = some (pV p 74)
  fRegion : f sRegion = some (pV p 75)
  fCvt : f sCvt = some (pV p 76)
  fFunc : f sFunc = some (pV p 77)
  fClass : f sClass = some (pV p 78)
  fGlyph : f sGlyph = some (pV p 79)
  fContour : f sContour = some (cV 129 aContour bContour)
  xContour : Boxes2 w 160 p 81 aContour bContour
  fPart : f sPart = some (cV 129 aPart bPart)
  xPart : Boxes2 w 160 p 82 aPart bPart
  fAnchor : f sAnchor = some (cV 129 aAnchor bAnchor)
  xAnchor : Boxes2 w 160 p 83 aAnchor bAnchor
  fDelta : f sDelta = some (cV 129 aDelta bDelta)
  xDelta : Boxes2 w 160 p 84 aDelta bDelta
  fHint : f sHint = some (cV 129 aHint bHint)
  xHint : Boxes2 w 160 p 85 aHint bHint
  fChar : f sChar = some (pV p 86)
  fLookup : f sLookup = some (pV p 87)
  fRule : f sRule = some (cV 133 aRule bRule)
  xRule : Boxes2 w 162 p 89 aRule bRule
  fFeature : f sFeature = some (pV p 90)
  none : ∀ t, t ≠ sUnit → t ≠ sAxis → t ≠ sRegion → t ≠ sCvt → t ≠ sFunc → t ≠ sClass → t ≠ sGlyph → t ≠ sContour → t ≠ sPart → t ≠ sAnchor → t ≠ sDelta → t ≠ sHint → t ≠ sChar → t ≠ sLookup → t ≠ sRule → t ≠ sFeature → f t = none
set_option maxRecDepth 100000 in
set_option maxHeartbeats 8000000 in
theorem statements_ok (w : World) (p : Nat) : Calls Tryz.prog 40 #[.pointer (some ⟨p, 0, none⟩)] w fun e w' => ∃ M f aContour bContour aPart bPart aAnchor bAnchor aDelta bDelta aHint bHint aRule bRule, e = .returned (.map (some M)) ∧ w.heap.size ≤ M ∧ TabOk w' p M f aContour bContour aPart bPart aAnchor bAnchor aDelta bDelta aHint bHint aRule bRule ∧ Below w.heap.size w w' := by
  go_enter Tryz.func40, Tryz.ntmps40
  have hmk := mkMapS w
  have hm0 := MapF.new embB w
  have hb0 : Below w.heap.size w (w.alloc (.map #[] 0)) := (Below.refl _ _).alloc (Nat.le_refl _) _
  obtain ⟨w1, hp1, hm1, hg1⟩ := hm0.put Tryz.underlying117 Tryz.underlying9 sUnit (.func (.func 73) #[.pointer (some ⟨p, 0, none⟩)] #[]) (by first | rfl | simp)
  have hq1 : (Instr.mapUpdate 117 (.map (some w.heap.size)) (.string ⟨#[117, 110, 105, 116]⟩) (.func (.func 73) #[.pointer (some ⟨p, 0, none⟩)] #[])).run Tryz.prog (w.alloc (.map #[] 0)) = .ok () w1 := hp1
  have hb1 : Below w.heap.size w w1 := hb0.grown hg1 hb0.size (fun k e => by cases e; exact Nat.le_refl _)
  clear hp1
  obtain ⟨w2, hp2, hm2, hg2⟩ := hm1.put Tryz.underlying117 Tryz.underlying9 sAxis (.func (.func 74) #[.pointer (some ⟨p, 0, none⟩)] #[]) (by first | rfl | simp)
  have hq2 : (Instr.mapUpdate 117 (.map (some w.heap.size)) (.string ⟨#[97, 120, 105, 115]⟩) (.func (.func 74) #[.pointer (some ⟨p, 0, none⟩)] #[])).run Tryz.prog w1 = .ok () w2 := hp2
  have hb2 : Below w.heap.size w w2 := hb1.grown hg2 hb1.size (fun k e => by cases e; exact Nat.le_refl _)
  clear hp2
  obtain ⟨w3, hp3, hm3, hg3⟩ := hm2.put Tryz.underlying117 Tryz.underlying9 sRegion (.func (.func 75) #[.pointer (some ⟨p, 0, none⟩)] #[]) (by first | rfl | simp)
  have hq3 : (Instr.mapUpdate 117 (.map (some w.heap.size)) (.string ⟨#[114, 101, 103, 105, 111, 110]⟩) (.func (.func 75) #[.pointer (some ⟨p, 0, none⟩)] #[])).run Tryz.prog w2 = .ok () w3 := hp3
  have hb3 : Below w.heap.size w w3 := hb2.grown hg3 hb2.size (fun k e => by cases e; exact Nat.le_refl _)
  clear hp3
  obtain ⟨w4, hp4, hm4, hg4⟩ := hm3.put Tryz.underlying117 Tryz.underlying9 sCvt (.func (.func 76) #[.pointer (some ⟨p, 0, none⟩)] #[]) (by first | rfl | simp)
  have hq4 : (Instr.mapUpdate 117 (.map (some w.heap.size)) (.string ⟨#[99, 118, 116]⟩) (.func (.func 76) #[.pointer (some ⟨p, 0, none⟩)] #[])).run Tryz.prog w3 = .ok () w4 := hp4
  have hb4 : Below w.heap.size w w4 := hb3.grown hg4 hb3.size (fun k e => by cases e; exact Nat.le_refl _)
  clear hp4
  obtain ⟨w5, hp5, hm5, hg5⟩ := hm4.put Tryz.underlying117 Tryz.underlying9 sFunc (.func (.func 77) #[.pointer (some ⟨p, 0, none⟩)] #[]) (by first | rfl | simp)
  have hq5 : (Instr.mapUpdate 117 (.map (some w.heap.size)) (.string ⟨#[102, 117, 110, 99]⟩) (.func (.func 77) #[.pointer (some ⟨p, 0, none⟩)] #[])).run Tryz.prog w4 = .ok () w5 := hp5
  have hb5 : Below w.heap.size w w5 := hb4.grown hg5 hb4.size (fun k e => by cases e; exact Nat.le_refl _)
  clear hp5
  obtain ⟨w6, hp6, hm6, hg6⟩ := hm5.put Tryz.underlying117 Tryz.underlying9 sClass (.func (.func 78) #[.pointer (some ⟨p, 0, none⟩)] #[]) (by first | rfl | simp)
  have hq6 : (Instr.mapUpdate 117 (.map (some w.heap.size)) (.string ⟨#[99, 108, 97, 115, 115]⟩) (.func (.func 78) #[.pointer (some ⟨p, 0, none⟩)] #[])).run Tryz.prog w5 = .ok () w6 := hp6
  have hb6 : Below w.heap.size w w6 := hb5.grown hg6 hb5.size (fun k e => by cases e; exact Nat.le_refl _)
  clear hp6
  obtain ⟨w7, hp7, hm7, hg7⟩ := hm6.put Tryz.underlying117 Tryz.underlying9 sGlyph (.func (.func 79) #[.pointer (some ⟨p, 0, none⟩)] #[]) (by first | rfl | simp)
  have hq7 : (Instr.mapUpdate 117 (.map (some w.heap.size)) (.string ⟨#[103, 108, 121, 112, 104]⟩) (.func (.func 79) #[.pointer (some ⟨p, 0, none⟩)] #[])).run Tryz.prog w6 = .ok () w7 := hp7
  have hb7 : Below w.heap.size w w7 := hb6.grown hg7 hb6.size (fun k e => by cases e; exact Nat.le_refl _)
  clear hp7
  go_wp2_with fail
  refine (ofGlyph_ok w7 p 81).mono ?_
  rintro e w'' ⟨rfl, rfl⟩
  obtain ⟨u7, hu7⟩ : ∃ u, ((w7.alloc (.cells #[.pointer (some ⟨p, 0, none⟩)] 111)).alloc (.cells #[.func (.func 81) #[.pointer (some ⟨p, 0, none⟩)] #[]] 160)) = u := ⟨_, rfl⟩
  have xContour : Boxes2 u7 160 p 81 w7.heap.size (w7.heap.size + 1) := hu7 ▸ Boxes2.new w7 160 p 81
  have hbu7 : Below w7.heap.size w7 u7 := hu7 ▸ ((Below.refl _ _).alloc (Nat.le_refl _) _).alloc (by simp) _
  have hm7 := hm7.below hbu7
  have hb7 := hb7.trans (hbu7.mono hb7.size)
  rw [hu7]
  clear hu7 hbu7
  obtain ⟨w8, hp8, hm8, hg8⟩ := hm7.put Tryz.underlying117 Tryz.underlying9 sContour (.func (.func 129) #[] #[.pointer (some ⟨w7.heap.size, 0, none⟩), .pointer (some ⟨w7.heap.size + 1, 0, none⟩)]) (by first | rfl | simp)
  have hq8 : (Instr.mapUpdate 117 (.map (some w.heap.size)) (.string ⟨#[99, 111, 110, 116, 111, 117, 114]⟩) (.func (.func 129) #[] #[.pointer (some ⟨w7.heap.size, 0, none⟩), .pointer (some ⟨w7.heap.size + 1, 0, none⟩)])).run Tryz.prog u7 = .ok () w8 := hp8
  have hb8 : Below w.heap.size w w8 := hb7.grown hg8 hb7.size (fun k e => by cases e; exact Nat.le_refl _)
  clear hp8
  have xContour := xContour.grown hg8 hm7.isMap
  go_wp2_with fail
  refine (ofGlyph_ok w8 p 82).mono ?_
  rintro e w'' ⟨rfl, rfl⟩
  obtain ⟨u8, hu8⟩ : ∃ u, ((w8.alloc (.cells #[.pointer (some ⟨p, 0, none⟩)] 111)).alloc (.cells #[.func (.func 82) #[.pointer (some ⟨p, 0, none⟩)] #[]] 160)) = u := ⟨_, rfl⟩
  have xPart : Boxes2 u8 160 p 82 w8.heap.size (w8.heap.size + 1) := hu8 ▸ Boxes2.new w8 160 p 82
  have hbu8 : Below w8.heap.size w8 u8 := hu8 ▸ ((Below.refl _ _).alloc (Nat.le_refl _) _).alloc (by simp) _
  have hm8 := hm8.below hbu8
  have hb8 := hb8.trans (hbu8.mono hb8.size)
  have xContour := xContour.below hbu8
  rw [hu8]
  clear hu8 hbu8
  obtain ⟨w9, hp9, hm9, hg9⟩ := hm8.put Tryz.underlying117 Tryz.underlying9 sPart (.func (.func 129) #[] #[.pointer (some ⟨w8.heap.size, 0, none⟩), .pointer (some ⟨w8.heap.size + 1, 0, none⟩)]) (by first | rfl | simp)
  have hq9 : (Instr.mapUpdate 117 (.map (some w.heap.size)) (.string ⟨#[112, 97, 114, 116]⟩) (.func (.func 129) #[] #[.pointer (some ⟨w8.heap.size, 0, none⟩), .pointer (some ⟨w8.heap.size + 1, 0, none⟩)])).run Tryz.prog u8 = .ok () w9 := hp9
  have hb9 : Below w.heap.size w w9 := hb8.grown hg9 hb8.size (fun k e => by cases e; exact Nat.le_refl _)
  clear hp9
  have xContour := xContour.grown hg9 hm8.isMap
  have xPart := xPart.grown hg9 hm8.isMap
  go_wp2_with fail
  refine (ofGlyph_ok w9 p 83).mono ?_
  rintro e w'' ⟨rfl, rfl⟩
  obtain ⟨u9, hu9⟩ : ∃ u, ((w9.alloc (.cells #[.pointer (some ⟨p, 0, none⟩)] 111)).alloc (.cells #[.func (.func 83) #[.pointer (some ⟨p, 0, none⟩)] #[]] 160)) = u := ⟨_, rfl⟩
  have xAnchor : Boxes2 u9 160 p 83 w9.heap.size (w9.heap.size + 1) := hu9 ▸ Boxes2.new w9 160 p 83
  have hbu9 : Below w9.heap.size w9 u9 := hu9 ▸ ((Below.refl _ _).alloc (Nat.le_refl _) _).alloc (by simp) _
  have hm9 := hm9.below hbu9
  have hb9 := hb9.trans (hbu9.mono hb9.size)
  have xContour := xContour.below hbu9
  have xPart := xPart.below hbu9
  rw [hu9]
  clear hu9 hbu9
  obtain ⟨w10, hp10, hm10, hg10⟩ := hm9.put Tryz.underlying117 Tryz.underlying9 sAnchor (.func (.func 129) #[] #[.pointer (some ⟨w9.heap.size, 0, none⟩), .pointer (some ⟨w9.heap.size + 1, 0, none⟩)]) (by first | rfl | simp)
  have hq10 : (Instr.mapUpdate 117 (.map (some w.heap.size)) (.string ⟨#[97, 110, 99, 104, 111, 114]⟩) (.func (.func 129) #[] #[.pointer (some ⟨w9.heap.size, 0, none⟩), .pointer (some ⟨w9.heap.size + 1, 0, none⟩)])).run Tryz.prog u9 = .ok () w10 := hp10
  have hb10 : Below w.heap.size w w10 := hb9.grown hg10 hb9.size (fun k e => by cases e; exact Nat.le_refl _)
  clear hp10
  have xContour := xContour.grown hg10 hm9.isMap
  have xPart := xPart.grown hg10 hm9.isMap
  have xAnchor := xAnchor.grown hg10 hm9.isMap
  go_wp2_with fail
  refine (ofGlyph_ok w10 p 84).mono ?_
  rintro e w'' ⟨rfl, rfl⟩
  obtain ⟨u10, hu10⟩ : ∃ u, ((w10.alloc (.cells #[.pointer (some ⟨p, 0, none⟩)] 111)).alloc (.cells #[.func (.func 84) #[.pointer (some ⟨p, 0, none⟩)] #[]] 160)) = u := ⟨_, rfl⟩
  have xDelta : Boxes2 u10 160 p 84 w10.heap.size (w10.heap.size + 1) := hu10 ▸ Boxes2.new w10 160 p 84
  have hbu10 : Below w10.heap.size w10 u10 := hu10 ▸ ((Below.refl _ _).alloc (Nat.le_refl _) _).alloc (by simp) _
  have hm10 := hm10.below hbu10
  have hb10 := hb10.trans (hbu10.mono hb10.size)
  have xContour := xContour.below hbu10
  have xPart := xPart.below hbu10
  have xAnchor := xAnchor.below hbu10
  rw [hu10]
  clear hu10 hbu10
  obtain ⟨w11, hp11, hm11, hg11⟩ := hm10.put Tryz.underlying117 Tryz.underlying9 sDelta (.func (.func 129) #[] #[.pointer (some ⟨w10.heap.size, 0, none⟩), .pointer (some ⟨w10.heap.size + 1, 0, none⟩)]) (by first | rfl | simp)
  have hq11 : (Instr.mapUpdate 117 (.map (some w.heap.size)) (.string ⟨#[100, 101, 108, 116, 97]⟩) (.func (.func 129) #[] #[.pointer (some ⟨w10.heap.size, 0, none⟩), .pointer (some ⟨w10.heap.size + 1, 0, none⟩)])).run Tryz.prog u10 = .ok () w11 := hp11
  have hb11 : Below w.heap.size w w11 := hb10.grown hg11 hb10.size (fun k e => by cases e; exact Nat.le_refl _)
  clear hp11
  have xContour := xContour.grown hg11 hm10.isMap
  have xPart := xPart.grown hg11 hm10.isMap
  have xAnchor := xAnchor.grown hg11 hm10.isMap
  have xDelta := xDelta.grown hg11 hm10.isMap
  go_wp2_with fail
  refine (ofGlyph_ok w11 p 85).mono ?_
  rintro e w'' ⟨rfl, rfl⟩
  obtain ⟨u11, hu11⟩ : ∃ u, ((w11.alloc (.cells #[.pointer (some ⟨p, 0, none⟩)] 111)).alloc (.cells #[.func (.func 85) #[.pointer (some ⟨p, 0, none⟩)] #[]] 160)) = u := ⟨_, rfl⟩
  have xHint : Boxes2 u11 160 p 85 w11.heap.size (w11.heap.size + 1) := hu11 ▸ Boxes2.new w11 160 p 85
  have hbu11 : Below w11.heap.size w11 u11 := hu11 ▸ ((Below.refl _ _).alloc (Nat.le_refl _) _).alloc (by simp) _
  have hm11 := hm11.below hbu11
  have hb11 := hb11.trans (hbu11.mono hb11.size)
  have xContour := xContour.below hbu11
  have xPart := xPart.below hbu11
  have xAnchor := xAnchor.below hbu11
  have xDelta := xDelta.below hbu11
  rw [hu11]
  clear hu11 hbu11
  obtain ⟨w12, hp12, hm12, hg12⟩ := hm11.put Tryz.underlying117 Tryz.underlying9 sHint (.func (.func 129) #[] #[.pointer (some ⟨w11.heap.size, 0, none⟩), .pointer (some ⟨w11.heap.size + 1, 0, none⟩)]) (by first | rfl | simp)
  have hq12 : (Instr.mapUpdate 117 (.map (some w.heap.size)) (.string ⟨#[104, 105, 110, 116]⟩) (.func (.func 129) #[] #[.pointer (some ⟨w11.heap.size, 0, none⟩), .pointer (some ⟨w11.heap.size + 1, 0, none⟩)])).run Tryz.prog u11 = .ok () w12 := hp12
  have hb12 : Below w.heap.size w w12 := hb11.grown hg12 hb11.size (fun k e => by cases e; exact Nat.le_refl _)
  clear hp12
  have xContour := xContour.grown hg12 hm11.isMap
  have xPart := xPart.grown hg12 hm11.isMap
  have xAnchor := xAnchor.grown hg12 hm11.isMap
  have xDelta := xDelta.grown hg12 hm11.isMap
  have xHint := xHint.grown hg12 hm11.isMap
  obtain ⟨w13, hp13, hm13, hg13⟩ := hm12.put Tryz.underlying117 Tryz.underlying9 sChar (.func (.func 86) #[.pointer (some ⟨p, 0, none⟩)] #[]) (by first | rfl | simp)
  have hq13 : (Instr.mapUpdate 117 (.map (some w.heap.size)) (.string ⟨#[99, 104, 97, 114]⟩) (.func (.func 86) #[.pointer (some ⟨p, 0, none⟩)] #[])).run Tryz.prog w12 = .ok () w13 := hp13
  have hb13 : Below w.heap.size w w13 := hb12.grown hg13 hb12.size (fun k e => by cases e; exact Nat.le_refl _)
  clear hp13
  have xContour := xContour.grown hg13 hm12.isMap
  have xPart := xPart.grown hg13 hm12.isMap
  have xAnchor := xAnchor.grown hg13 hm12.isMap
  have xDelta := xDelta.grown hg13 hm12.isMap
  have xHint := xHint.grown hg13 hm12.isMap
  obtain ⟨w14, hp14, hm14, hg14⟩ := hm13.put Tryz.underlying117 Tryz.underlying9 sLookup (.func (.func 87) #[.pointer (some ⟨p, 0, none⟩)] #[]) (by first | rfl | simp)
  have hq14 : (Instr.mapUpdate 117 (.map (some w.heap.size)) (.string ⟨#[108, 111, 111, 107, 117, 112]⟩) (.func (.func 87) #[.pointer (some ⟨p, 0, none⟩)] #[])).run Tryz.prog w13 = .ok () w14 := hp14
  have hb14 : Below w.heap.size w w14 := hb13.grown hg14 hb13.size (fun k e => by cases e; exact Nat.le_refl _)
  clear hp14
  have xContour := xContour.grown hg14 hm13.isMap
  have xPart := xPart.grown hg14 hm13.isMap
  have xAnchor := xAnchor.grown hg14 hm13.isMap
  have xDelta := xDelta.grown hg14 hm13.isMap
  have xHint := xHint.grown hg14 hm13.isMap
  go_wp2_with fail
  refine (ofLookup_ok w14 p 89).mono ?_
  rintro e w'' ⟨rfl, rfl⟩
  obtain ⟨u14, hu14⟩ : ∃ u, ((w14.alloc (.cells #[.pointer (some ⟨p, 0, none⟩)] 111)).alloc (.cells #[.func (.func 89) #[.pointer (some ⟨p, 0, none⟩)] #[]] 162)) = u := ⟨_, rfl⟩
  have xRule : Boxes2 u14 162 p 89 w14.heap.size (w14.heap.size + 1) := hu14 ▸ Boxes2.new w14 162 p 89
  have hbu14 : Below w14.heap.size w14 u14 := hu14 ▸ ((Below.refl _ _).alloc (Nat.le_refl _) _).alloc (by simp) _
  have hm14 := hm14.below hbu14
  have hb14 := hb14.trans (hbu14.mono hb14.size)
  have xContour := xContour.below hbu14
  have xPart := xPart.below hbu14
  have xAnchor := xAnchor.below hbu14
  have xDelta := xDelta.below hbu14
  have xHint := xHint.below hbu14
  rw [hu14]
  clear hu14 hbu14
  obtain ⟨w15, hp15, hm15, hg15⟩ := hm14.put Tryz.underlying117 Tryz.underlying9 sRule (.func (.func 133) #[] #[.pointer (some ⟨w14.heap.size, 0, none⟩), .pointer (some ⟨w14.heap.size + 1, 0, none⟩)]) (by first | rfl | simp)
  have hq15 : (Instr.mapUpdate 117 (.map (some w.heap.size)) (.string ⟨#[114, 117, 108, 101]⟩) (.func (.func 133) #[] #[.pointer (some ⟨w14.heap.size, 0, none⟩), .pointer (some ⟨w14.heap.size + 1, 0, none⟩)])).run Tryz.prog u14 = .ok () w15 := hp15
  have hb15 : Below w.heap.size w w15 := hb14.grown hg15 hb14.size (fun k e => by cases e; exact Nat.le_refl _)
  clear hp15
  have xContour := xContour.grown hg15 hm14.isMap
  have xPart := xPart.grown hg15 hm14.isMap
  have xAnchor := xAnchor.grown hg15 hm14.isMap
  have xDelta := xDelta.grown hg15 hm14.isMap
  have xHint := xHint.grown hg15 hm14.isMap
  have xRule := xRule.grown hg15 hm14.isMap
  obtain ⟨w16, hp16, hm16, hg16⟩ := hm15.put Tryz.underlying117 Tryz.underlying9 sFeature (.func (.func 90) #[.pointer (some ⟨p, 0, none⟩)] #[]) (by first | rfl | simp)
  have hq16 : (Instr.mapUpdate 117 (.map (some w.heap.size)) (.string ⟨#[102, 101, 97, 116, 117, 114, 101]⟩) (.func (.func 90) #[.pointer (some ⟨p, 0, none⟩)] #[])).run Tryz.prog w15 = .ok () w16 := hp16
  have hb16 : Below w.heap.size w w16 := hb15.grown hg16 hb15.size (fun k e => by cases e; exact Nat.le_refl _)
  clear hp16
  have xContour := xContour.grown hg16 hm15.isMap
  have xPart := xPart.grown hg16 hm15.isMap
  have xAnchor := xAnchor.grown hg16 hm15.isMap
  have xDelta := xDelta.grown hg16 hm15.isMap
  have xHint := xHint.grown hg16 hm15.isMap
  have xRule := xRule.grown hg16 hm15.isMap
  go_wp2_with fail
  go_ret
  refine ⟨_, _, _, _, _, _, _, _, _, _, _, _, _, _, rfl, Nat.le_refl _, ⟨hm16, rfl, rfl, rfl, rfl, rfl, rfl, rfl, rfl, xContour, rfl, xPart, rfl, xAnchor, rfl, xDelta, rfl, xHint, rfl, rfl, rfl, xRule, rfl, ?_⟩, hb16⟩
  intro t nUnit nAxis nRegion nCvt nFunc nClass nGlyph nContour nPart nAnchor nDelta nHint nChar nLookup nRule nFeature
  simp only [if_neg nUnit, if_neg nAxis, if_neg nRegion, if_neg nCvt, if_neg nFunc, if_neg nClass, if_neg nGlyph, if_neg nContour, if_neg nPart, if_neg nAnchor, if_neg nDelta, if_neg nHint, if_neg nChar, if_neg nLookup, if_neg nRule, if_neg nFeature]
end Go.Proofs.YtkijckccfookeaaGreatDoor
