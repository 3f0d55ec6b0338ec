/- parse: the table of statements. Printed by gen_pbl.py. -/
import Derived.Test.YtkijckccfookeaaGreatDoorM21
import Derived.Test.YtkijckccfookeaaGreatDoorM07
namespace Go.Proofs.YtkijckccfookeaaGreatDoor
open Go.RowKit

theorem ofGlyph_ok (w : World) (p F : Nat) : Calls Tryz.prog 80 #[.pointer (some ⟨p, 0, none⟩), .func (.func F) #[.pointer (some ⟨p, 0, none⟩)] #[]] w fun e w' => e = .returned (.func (.func 129) #[] #[.pointer (some ⟨w.heap.size, 0, none⟩), .pointer (some ⟨w.heap.size + 1, 0, none⟩)]) ∧
    w' = (w.alloc (.cells #[.pointer (some ⟨p, 0, none⟩)] 111)).alloc (.cells #[.func (.func F) #[.pointer (some ⟨p, 0, none⟩)] #[]] 160) := by
  go_enter Tryz.func80, Tryz.ntmps80
  go_wp2
  go_ret
  exact ⟨by simp, rfl⟩

theorem ofLookup_ok (w : World) (p F : Nat) : Calls Tryz.prog 88 #[.pointer (some ⟨p, 0, none⟩), .func (.func F) #[.pointer (some ⟨p, 0, none⟩)] #[]] w fun e w' => e = .returned (.func (.func 133) #[] #[.pointer (some ⟨w.heap.size, 0, none⟩), .pointer (some ⟨w.heap.size + 1, 0, none⟩)]) ∧
    w' = (w.alloc (.cells #[.pointer (some ⟨p, 0, none⟩)] 111)).alloc (.cells #[.func (.func F) #[.pointer (some ⟨p, 0, none⟩)] #[]] 162) := by
  go_enter Tryz.func88, Tryz.ntmps88
  go_wp2
  go_ret
  exact ⟨by simp, rfl⟩

/-- a statement of the parser's; one about the last glyph, the last lookup -/
def pV (p F : Nat) : Value := .func (.func F) #[.pointer (some ⟨p, 0, none⟩)] #[]
def cV (F a b : Nat) : Value := .func (.func F) #[] #[.pointer (some ⟨a, 0, none⟩), .pointer (some ⟨b, 0, none⟩)]
/-- a box of the parser, one of the reader -/
structure Boxes2 (w : World) (t : TypeId) (p F a b : Nat) : Prop where
  par : Bk w a 111 #[.pointer (some ⟨p, 0, none⟩)]
  fn : Bk w b t #[pV p F]
theorem Boxes2.below {w w' : World} {t : TypeId} {p F a b : Nat} (h : Boxes2 w t p F a b) (hb : Below w.heap.size w w') : Boxes2 w' t p F a b := ⟨h.par.keep (hb.block _ h.par.lt), h.fn.keep (hb.block _ h.fn.lt)⟩
theorem Boxes2.grown {w w' : World} {t : TypeId} {p F a b m : Nat} (h : Boxes2 w t p F a b) (hg : w.grownBy w' (some m)) (hm : ∃ es c, w.heap[m]? = some (.map es c)) : Boxes2 w' t p F a b := by
  obtain ⟨es, c, hm⟩ := hm
  refine ⟨h.par.keep (hg.block _ h.par.lt fun e => ?_), h.fn.keep (hg.block _ h.fn.lt fun e => ?_)⟩
  · injection e with e
    subst e
    have := h.par
    unfold Bk at this
    rw [hm] at this
    cases this
  · injection e with e
    subst e
    have := h.fn
    unfold Bk at this
    rw [hm] at this
    cases this
theorem Boxes2.new (w : World) (t : TypeId) (p F : Nat) : Boxes2 ((w.alloc (.cells #[.pointer (some ⟨p, 0, none⟩)] 111)).alloc (.cells #[pV p F] t)) t p F w.heap.size (w.heap.size + 1) := by
  refine ⟨(Bk.new w _ _).alloc _, ?_⟩
  have := Bk.new (w.alloc (.cells #[.pointer (some ⟨p, 0, none⟩)] 111)) t #[pV p F]
  simpa using this

theorem mkMapS (w : World) : (Instr.makeMap 117 none).run Tryz.prog w = .ok (.map (some w.heap.size)) (w.alloc (.map #[] 0)) := by
  simp [Instr.makeMap, run_underlying Tryz.underlying117, Result.andThen, newObj, go_sem]
  try rfl
structure TabOk (w : World) (p M : Nat) (f : B → Option Value) (aContour bContour aPart bPart aAnchor bAnchor aDelta bDelta aHint bHint aRule bRule : Nat) : Prop where
  map : MapF embB w M f
  fUnit : f sUnit = some (pV p 73)
  fAxis : f sAxis = some (pV p 74)
  fRegion : f sRegion = some (pV p 75)
  fCvt : f sCvt = some (pV p 76)
  fFunc : f sFunc = some (pV p 77)
  fClass : f sClass = some (pV p 78)
  fGlyph : f sGlyph = some (pV p 79)
  fContour : f sContour = some (cV 129 aContour bContour)
  xContour : Boxes2 w 160 p 81 aContour bContour
  fPart : f sPart = some (cV 129 aPart bPart)
  xPart : Boxes2 w 160 p 82 aPart bPart
  fAnchor : f sAnchor = some (cV 129 aAnchor bAnchor)
  xAnchor : Boxes2 w 160 p 83 aAnchor bAnchor
  fDelta : f sDelta = some (cV 129 aDelta bDelta)
  xDelta : Boxes2 w 160 p 84 aDelta bDelta
  fHint : f sHint = some (cV 129 aHint bHint)
  xHint : Boxes2 w 160 p 85 aHint bHint
  fChar : f sChar = some (pV p 86)
  fLookup : f sLookup = some (pV p 87)
  fRule : f sRule = some (cV 133 aRule bRule)
  xRule : Boxes2 w 162 p 89 aRule bRule
  fFeature : f sFeature = some (pV p 90)
  none : ∀ t, t ≠ sUnit → t ≠ sAxis → t ≠ sRegion → t ≠ sCvt → t ≠ sFunc → t ≠ sClass → t ≠ sGlyph → t ≠ sContour → t ≠ sPart → t ≠ sAnchor → t ≠ sDelta → t ≠ sHint → t ≠ sChar → t ≠ sLookup → t ≠ sRule → t ≠ sFeature → f t = none
set_option maxRecDepth 100000 in
set_option maxHeartbeats 8000000 in
theorem statements_ok (w : World) (p : Nat) : Calls Tryz.prog 40 #[.pointer (some ⟨p, 0, none⟩)] w fun e w' => ∃ M f aContour bContour aPart bPart aAnchor bAnchor aDelta bDelta aHint bHint aRule bRule, e = .returned (.map (some M)) ∧ w.heap.size ≤ M ∧ TabOk w' p M f aContour bContour aPart bPart aAnchor bAnchor aDelta bDelta aHint bHint aRule bRule ∧ Below w.heap.size w w' := by
  go_enter Tryz.func40, Tryz.ntmps40
  have hmk := mkMapS w
  have hm0 := MapF.new embB w
  have hb0 : Below w.heap.size w (w.alloc (.map #[] 0)) := (Below.refl _ _).alloc (Nat.le_refl _) _
  obtain ⟨w1, hp1, hm1, hg1⟩ := hm0.put Tryz.underlying117 Tryz.underlying9 sUnit (.func (.func 73) #[.pointer (some ⟨p, 0, none⟩)] #[]) (by first | rfl | simp)
  have hq1 : (Instr.mapUpdate 117 (.map (some w.heap.size)) (.string ⟨#[117, 110, 105, 116]⟩) (.func (.func 73) #[.pointer (some ⟨p, 0, none⟩)] #[])).run Tryz.prog (w.alloc (.map #[] 0)) = .ok () w1 := hp1
  have hb1 : Below w.heap.size w w1 := hb0.grown hg1 hb0.size (fun k e => by cases e; exact Nat.le_refl _)
  clear hp1
  obtain ⟨w2, hp2, hm2, hg2⟩ := hm1.put Tryz.underlying117 Tryz.underlying9 sAxis (.func (.func 74) #[.pointer (some ⟨p, 0, none⟩)] #[]) (by first | rfl | simp)
  have hq2 : (Instr.mapUpdate 117 (.map (some w.heap.size)) (.string ⟨#[97, 120, 105, 115]⟩) (.func (.func 74) #[.pointer (some ⟨p, 0, none⟩)] #[])).run Tryz.prog w1 = .ok () w2 := hp2
  have hb2 : Below w.heap.size w w2 := hb1.grown hg2 hb1.size (fun k e => by cases e; exact Nat.le_refl _)
  clear hp2
  obtain ⟨w3, hp3, hm3, hg3⟩ := hm2.put Tryz.underlying117 Tryz.underlying9 sRegion (.func (.func 75) #[.pointer (some ⟨p, 0, none⟩)] #[]) (by first | rfl | simp)
  have hq3 : (Instr.mapUpdate 117 (.map (some w.heap.size)) (.string ⟨#[114, 101, 103, 105, 111, 110]⟩) (.func (.func 75) #[.pointer (some ⟨p, 0, none⟩)] #[])).run Tryz.prog w2 = .ok () w3 := hp3
  have hb3 : Below w.heap.size w w3 := hb2.grown hg3 hb2.size (fun k e => by cases e; exact Nat.le_refl _)
  clear hp3
  obtain ⟨w4, hp4, hm4, hg4⟩ := hm3.put Tryz.underlying117 Tryz.underlying9 sCvt (.func (.func 76) #[.pointer (some ⟨p, 0, none⟩)] #[]) (by first | rfl | simp)
  have hq4 : (Instr.mapUpdate 117 (.map (some w.heap.size)) (.string ⟨#[99, 118, 116]⟩) (.func (.func 76) #[.pointer (some ⟨p, 0, none⟩)] #[])).run Tryz.prog w3 = .ok () w4 := hp4
  have hb4 : Below w.heap.size w w4 := hb3.grown hg4 hb3.size (fun k e => by cases e; exact Nat.le_refl _)
  clear hp4
  obtain ⟨w5, hp5, hm5, hg5⟩ := hm4.put Tryz.underlying117 Tryz.underlying9 sFunc (.func (.func 77) #[.pointer (some ⟨p, 0, none⟩)] #[]) (by first | rfl | simp)
  have hq5 : (Instr.mapUpdate 117 (.map (some w.heap.size)) (.string ⟨#[102, 117, 110, 99]⟩) (.func (.func 77) #[.pointer (some ⟨p, 0, none⟩)] #[])).run Tryz.prog w4 = .ok () w5 := hp5
  have hb5 : Below w.heap.size w w5 := hb4.grown hg5 hb4.size (fun k e => by cases e; exact Nat.le_refl _)
  clear hp5
  obtain ⟨w6, hp6, hm6, hg6⟩ := hm5.put Tryz.underlying117 Tryz.underlying9 sClass (.func (.func 78) #[.pointer (some ⟨p, 0, none⟩)] #[]) (by first | rfl | simp)
  have hq6 : (Instr.mapUpdate 117 (.map (some w.heap.size)) (.string ⟨#[99, 108, 97, 115, 115]⟩) (.func (.func 78) #[.pointer (some ⟨p, 0, none⟩)] #[])).run Tryz.prog w5 = .ok () w6 := hp6
  have hb6 : Below w.heap.size w w6 := hb5.grown hg6 hb5.size (fun k e => by cases e; exact Nat.le_refl _)
  clear hp6
  obtain ⟨w7, hp7, hm7, hg7⟩ := hm6.put Tryz.underlying117 Tryz.underlying9 sGlyph (.func (.func 79) #[.pointer (some ⟨p, 0, none⟩)] #[]) (by first | rfl | simp)
  have hq7 : (Instr.mapUpdate 117 (.map (some w.heap.size)) (.string ⟨#[103, 108, 121, 112, 104]⟩) (.func (.func 79) #[.pointer (some ⟨p, 0, none⟩)] #[])).run Tryz.prog w6 = .ok () w7 := hp7
  have hb7 : Below w.heap.size w w7 := hb6.grown hg7 hb6.size (fun k e => by cases e; exact Nat.le_refl _)
  clear hp7
  go_wp2_with fail
  refine (ofGlyph_ok w7 p 81).mono ?_
  rintro e w'' ⟨rfl, rfl⟩
  obtain ⟨u7, hu7⟩ : ∃ u, ((w7.alloc (.cells #[.pointer (some ⟨p, 0, none⟩)] 111)).alloc (.cells #[.func (.func 81) #[.pointer (some ⟨p, 0, none⟩)] #[]] 160)) = u := ⟨_, rfl⟩
  have xContour : Boxes2 u7 160 p 81 w7.heap.size (w7.heap.size + 1) := hu7 ▸ Boxes2.new w7 160 p 81
  have hbu7 : Below w7.heap.size w7 u7 := hu7 ▸ ((Below.refl _ _).alloc (Nat.le_refl _) _).alloc (by simp) _
  have hm7 := hm7.below hbu7
  have hb7 := hb7.trans (hbu7.mono hb7.size)
  rw [hu7]
  clear hu7 hbu7
  obtain ⟨w8, hp8, hm8, hg8⟩ := hm7.put Tryz.underlying117 Tryz.underlying9 sContour (.func (.func 129) #[] #[.pointer (some ⟨w7.heap.size, 0, none⟩), .pointer (some ⟨w7.heap.size + 1, 0, none⟩)]) (by first | rfl | simp)
  have hq8 : (Instr.mapUpdate 117 (.map (some w.heap.size)) (.string ⟨#[99, 111, 110, 116, 111, 117, 114]⟩) (.func (.func 129) #[] #[.pointer (some ⟨w7.heap.size, 0, none⟩), .pointer (some ⟨w7.heap.size + 1, 0, none⟩)])).run Tryz.prog u7 = .ok () w8 := hp8
  have hb8 : Below w.heap.size w w8 := hb7.grown hg8 hb7.size (fun k e => by cases e; exact Nat.le_refl _)
  clear hp8
  have xContour := xContour.grown hg8 hm7.isMap
  go_wp2_with fail
  refine (ofGlyph_ok w8 p 82).mono ?_
  rintro e w'' ⟨rfl, rfl⟩
  obtain ⟨u8, hu8⟩ : ∃ u, ((w8.alloc (.cells #[.pointer (some ⟨p, 0, none⟩)] 111)).alloc (.cells #[.func (.func 82) #[.pointer (some ⟨p, 0, none⟩)] #[]] 160)) = u := ⟨_, rfl⟩
  have xPart : Boxes2 u8 160 p 82 w8.heap.size (w8.heap.size + 1) := hu8 ▸ Boxes2.new w8 160 p 82
  have hbu8 : Below w8.heap.size w8 u8 := hu8 ▸ ((Below.refl _ _).alloc (Nat.le_refl _) _).alloc (by simp) _
  have hm8 := hm8.below hbu8
  have hb8 := hb8.trans (hbu8.mono hb8.size)
  have xContour := xContour.below hbu8
  rw [hu8]
  clear hu8 hbu8
  obtain ⟨w9, hp9, hm9, hg9⟩ := hm8.put Tryz.underlying117 Tryz.underlying9 sPart (.func (.func 129) #[] #[.pointer (some ⟨w8.heap.size, 0, none⟩), .pointer (some ⟨w8.heap.size + 1, 0, none⟩)]) (by first | rfl | simp)
  have hq9 : (Instr.mapUpdate 117 (.map (some w.heap.size)) (.string ⟨#[112, 97, 114, 116]⟩) (.func (.func 129) #[] #[.pointer (some ⟨w8.heap.size, 0, none⟩), .pointer (some ⟨w8.heap.size + 1, 0, none⟩)])).run Tryz.prog u8 = .ok () w9 := hp9
  have hb9 : Below w.heap.size w w9 := hb8.grown hg9 hb8.size (fun k e => by cases e; exact Nat.le_refl _)
  clear hp9
  have xContour := xContour.grown hg9 hm8.isMap
  have xPart := xPart.grown hg9 hm8.isMap
  go_wp2_with fail
  refine (ofGlyph_ok w9 p 83).mono ?_
  rintro e w'' ⟨rfl, rfl⟩
  obtain ⟨u9, hu9⟩ : ∃ u, ((w9.alloc (.cells #[.pointer (some ⟨p, 0, none⟩)] 111)).alloc (.cells #[.func (.func 83) #[.pointer (some ⟨p, 0, none⟩)] #[]] 160)) = u := ⟨_, rfl⟩
  have xAnchor : Boxes2 u9 160 p 83 w9.heap.size (w9.heap.size + 1) := hu9 ▸ Boxes2.new w9 160 p 83
  have hbu9 : Below w9.heap.size w9 u9 := hu9 ▸ ((Below.refl _ _).alloc (Nat.le_refl _) _).alloc (by simp) _
  have hm9 := hm9.below hbu9
  have hb9 := hb9.trans (hbu9.mono hb9.size)
  have xContour := xContour.below hbu9
  have xPart := xPart.below hbu9
  rw [hu9]
  clear hu9 hbu9
  obtain ⟨w10, hp10, hm10, hg10⟩ := hm9.put Tryz.underlying117 Tryz.underlying9 sAnchor (.func (.func 129) #[] #[.pointer (some ⟨w9.heap.size, 0, none⟩), .pointer (some ⟨w9.heap.size + 1, 0, none⟩)]) (by first | rfl | simp)
  have hq10 : (Instr.mapUpdate 117 (.map (some w.heap.size)) (.string ⟨#[97, 110, 99, 104, 111, 114]⟩) (.func (.func 129) #[] #[.pointer (some ⟨w9.heap.size, 0, none⟩), .pointer (some ⟨w9.heap.size + 1, 0, none⟩)])).run Tryz.prog u9 = .ok () w10 := hp10
  have hb10 : Below w.heap.size w w10 := hb9.grown hg10 hb9.size (fun k e => by cases e; exact Nat.le_refl _)
  clear hp10
  have xContour := xContour.grown hg10 hm9.isMap
  have xPart := xPart.grown hg10 hm9.isMap
  have xAnchor := xAnchor.grown hg10 hm9.isMap
  go_wp2_with fail
  refine (ofGlyph_ok w10 p 84).mono ?_
  rintro e w'' ⟨rfl, rfl⟩
  obtain ⟨u10, hu10⟩ : ∃ u, ((w10.alloc (.cells #[.pointer (some ⟨p, 0, none⟩)] 111)).alloc (.cells #[.func (.func 84) #[.pointer (some ⟨p, 0, none⟩)] #[]] 160)) = u := ⟨_, rfl⟩
  have xDelta : Boxes2 u10 160 p 84 w10.heap.size (w10.heap.size + 1) := hu10 ▸ Boxes2.new w10 160 p 84
  have hbu10 : Below w10.heap.size w10 u10 := hu10 ▸ ((Below.refl _ _).alloc (Nat.le_refl _) _).alloc (by simp) _
  have hm10 := hm10.below hbu10
  have hb10 := hb10.trans (hbu10.mono hb10.size)
  have xContour := xContour.below hbu10
  have xPart := xPart.below hbu10
  have xAnchor := xAnchor.below hbu10
  rw [hu10]
  clear hu10 hbu10
  obtain ⟨w11, hp11, hm11, hg11⟩ := hm10.put Tryz.underlying117 Tryz.underlying9 sDelta (.func (.func 129) #[] #[.pointer (some ⟨w10.heap.size, 0, none⟩), .pointer (some ⟨w10.heap.size + 1, 0, none⟩)]) (by first | rfl | simp)
  have hq11 : (Instr.mapUpdate 117 (.map (some w.heap.size)) (.string ⟨#[100, 101, 108, 116, 97]⟩) (.func (.func 129) #[] #[.pointer (some ⟨w10.heap.size, 0, none⟩), .pointer (some ⟨w10.heap.size + 1, 0, none⟩)])).run Tryz.prog u10 = .ok () w11 := hp11
  have hb11 : Below w.heap.size w w11 := hb10.grown hg11 hb10.size (fun k e => by cases e; exact Nat.le_refl _)
  clear hp11
  have xContour := xContour.grown hg11 hm10.isMap
  have xPart := xPart.grown hg11 hm10.isMap
  have xAnchor := xAnchor.grown hg11 hm10.isMap
  have xDelta := xDelta.grown hg11 hm10.isMap
  go_wp2_with fail
  refine (ofGlyph_ok w11 p 85).mono ?_
  rintro e w'' ⟨rfl, rfl⟩
  obtain ⟨u11, hu11⟩ : ∃ u, ((w11.alloc (.cells #[.pointer (some ⟨p, 0, none⟩)] 111)).alloc (.cells #[.func (.func 85) #[.pointer (some ⟨p, 0, none⟩)] #[]] 160)) = u := ⟨_, rfl⟩
  have xHint : Boxes2 u11 160 p 85 w11.heap.size (w11.heap.size + 1) := hu11 ▸ Boxes2.new w11 160 p 85
  have hbu11 : Below w11.heap.size w11 u11 := hu11 ▸ ((Below.refl _ _).alloc (Nat.le_refl _) _).alloc (by simp) _
  have hm11 := hm11.below hbu11
  have hb11 := hb11.trans (hbu11.mono hb11.size)
  have xContour := xContour.below hbu11
  have xPart := xPart.below hbu11
  have xAnchor := xAnchor.below hbu11
  have xDelta := xDelta.below hbu11
  rw [hu11]
  clear hu11 hbu11
  obtain ⟨w12, hp12, hm12, hg12⟩ := hm11.put Tryz.underlying117 Tryz.underlying9 sHint (.func (.func 129) #[] #[.pointer (some ⟨w11.heap.size, 0, none⟩), .pointer (some ⟨w11.heap.size + 1, 0, none⟩)]) (by first | rfl | simp)
  have hq12 : (Instr.mapUpdate 117 (.map (some w.heap.size)) (.string ⟨#[104, 105, 110, 116]⟩) (.func (.func 129) #[] #[.pointer (some ⟨w11.heap.size, 0, none⟩), .pointer (some ⟨w11.heap.size + 1, 0, none⟩)])).run Tryz.prog u11 = .ok () w12 := hp12
  have hb12 : Below w.heap.size w w12 := hb11.grown hg12 hb11.size (fun k e => by cases e; exact Nat.le_refl _)
  clear hp12
  have xContour := xContour.grown hg12 hm11.isMap
  have xPart := xPart.grown hg12 hm11.isMap
  have xAnchor := xAnchor.grown hg12 hm11.isMap
  have xDelta := xDelta.grown hg12 hm11.isMap
  have xHint := xHint.grown hg12 hm11.isMap
  obtain ⟨w13, hp13, hm13, hg13⟩ := hm12.put Tryz.underlying117 Tryz.underlying9 sChar (.func (.func 86) #[.pointer (some ⟨p, 0, none⟩)] #[]) (by first | rfl | simp)
  have hq13 : (Instr.mapUpdate 117 (.map (some w.heap.size)) (.string ⟨#[99, 104, 97, 114]⟩) (.func (.func 86) #[.pointer (some ⟨p, 0, none⟩)] #[])).run Tryz.prog w12 = .ok () w13 := hp13
  have hb13 : Below w.heap.size w w13 := hb12.grown hg13 hb12.size (fun k e => by cases e; exact Nat.le_refl _)
  clear hp13
  have xContour := xContour.grown hg13 hm12.isMap
  have xPart := xPart.grown hg13 hm12.isMap
  have xAnchor := xAnchor.grown hg13 hm12.isMap
  have xDelta := xDelta.grown hg13 hm12.isMap
  have xHint := xHint.grown hg13 hm12.isMap
  obtain ⟨w14, hp14, hm14, hg14⟩ := hm13.put Tryz.underlying117 Tryz.underlying9 sLookup (.func (.func 87) #[.pointer (some ⟨p, 0, none⟩)] #[]) (by first | rfl | simp)
  have hq14 : (Instr.mapUpdate 117 (.map (some w.heap.size)) (.string ⟨#[108, 111, 111, 107, 117, 112]⟩) (.func (.func 87) #[.pointer (some ⟨p, 0, none⟩)] #[])).run Tryz.prog w13 = .ok () w14 := hp14
  have hb14 : Below w.heap.size w w14 := hb13.grown hg14 hb13.size (fun k e => by cases e; exact Nat.le_refl _)
  clear hp14
  have xContour := xContour.grown hg14 hm13.isMap
  have xPart := xPart.grown hg14 hm13.isMap
  have xAnchor := xAnchor.grown hg14 hm13.isMap
  have xDelta := xDelta.grown hg14 hm13.isMap
  have xHint := xHint.grown hg14 hm13.isMap
  go_wp2_with fail
  refine (ofLookup_ok w14 p 89).mono ?_
  rintro e w'' ⟨rfl, rfl⟩
  obtain ⟨u14, hu14⟩ : ∃ u, ((w14.alloc (.cells #[.pointer (some ⟨p, 0, none⟩)] 111)).alloc (.cells #[.func (.func 89) #[.pointer (some ⟨p, 0, none⟩)] #[]] 162)) = u := ⟨_, rfl⟩
  have xRule : Boxes2 u14 162 p 89 w14.heap.size (w14.heap.size + 1) := hu14 ▸ Boxes2.new w14 162 p 89
  have hbu14 : Below w14.heap.size w14 u14 := hu14 ▸ ((Below.refl _ _).alloc (Nat.le_refl _) _).alloc (by simp) _
  have hm14 := hm14.below hbu14
  have hb14 := hb14.trans (hbu14.mono hb14.size)
  have xContour := xContour.below hbu14
  have xPart := xPart.below hbu14
  have xAnchor := xAnchor.below hbu14
  have xDelta := xDelta.below hbu14
  have xHint := xHint.below hbu14
  rw [hu14]
  clear hu14 hbu14
  obtain ⟨w15, hp15, hm15, hg15⟩ := hm14.put Tryz.underlying117 Tryz.underlying9 sRule (.func (.func 133) #[] #[.pointer (some ⟨w14.heap.size, 0, none⟩), .pointer (some ⟨w14.heap.size + 1, 0, none⟩)]) (by first | rfl | simp)
  have hq15 : (Instr.mapUpdate 117 (.map (some w.heap.size)) (.string ⟨#[114, 117, 108, 101]⟩) (.func (.func 133) #[] #[.pointer (some ⟨w14.heap.size, 0, none⟩), .pointer (some ⟨w14.heap.size + 1, 0, none⟩)])).run Tryz.prog u14 = .ok () w15 := hp15
  have hb15 : Below w.heap.size w w15 := hb14.grown hg15 hb14.size (fun k e => by cases e; exact Nat.le_refl _)
  clear hp15
  have xContour := xContour.grown hg15 hm14.isMap
  have xPart := xPart.grown hg15 hm14.isMap
  have xAnchor := xAnchor.grown hg15 hm14.isMap
  have xDelta := xDelta.grown hg15 hm14.isMap
  have xHint := xHint.grown hg15 hm14.isMap
  have xRule := xRule.grown hg15 hm14.isMap
  obtain ⟨w16, hp16, hm16, hg16⟩ := hm15.put Tryz.underlying117 Tryz.underlying9 sFeature (.func (.func 90) #[.pointer (some ⟨p, 0, none⟩)] #[]) (by first | rfl | simp)
  have hq16 : (Instr.mapUpdate 117 (.map (some w.heap.size)) (.string ⟨#[102, 101, 97, 116, 117, 114, 101]⟩) (.func (.func 90) #[.pointer (some ⟨p, 0, none⟩)] #[])).run Tryz.prog w15 = .ok () w16 := hp16
  have hb16 : Below w.heap.size w w16 := hb15.grown hg16 hb15.size (fun k e => by cases e; exact Nat.le_refl _)
  clear hp16
  have xContour := xContour.grown hg16 hm15.isMap
  have xPart := xPart.grown hg16 hm15.isMap
  have xAnchor := xAnchor.grown hg16 hm15.isMap
  have xDelta := xDelta.grown hg16 hm15.isMap
  have xHint := xHint.grown hg16 hm15.isMap
  have xRule := xRule.grown hg16 hm15.isMap
  go_wp2_with fail
  go_ret
  refine ⟨_, _, _, _, _, _, _, _, _, _, _, _, _, _, rfl, Nat.le_refl _, ⟨hm16, rfl, rfl, rfl, rfl, rfl, rfl, rfl, rfl, xContour, rfl, xPart, rfl, xAnchor, rfl, xDelta, rfl, xHint, rfl, rfl, rfl, xRule, rfl, ?_⟩, hb16⟩
  intro t nUnit nAxis nRegion nCvt nFunc nClass nGlyph nContour nPart nAnchor nDelta nHint nChar nLookup nRule nFeature
  simp only [if_neg nUnit, if_neg nAxis, if_neg nRegion, if_neg nCvt, if_neg nFunc, if_neg nClass, if_neg nGlyph, if_neg nContour, if_neg nPart, if_neg nAnchor, if_neg nDelta, if_neg nHint, if_neg nChar, if_neg nLookup, if_neg nRule, if_neg nFeature]
end Go.Proofs.YtkijckccfookeaaGreatDoor
/- parse: class. -/
namespace Go.Proofs.YtkijckccfookeaaGreatDoor
open Go.RowKit
attribute [-go_sem] Builtin.append_

theorem goT (op : Bool) (row : List P3) (told : List (List P3)) (ws : List P3) : setsGoT op (txts row) (told.map txts) (txts ws) = (setsGo op row told ws).map (List.map txts) := by
  induction ws generalizing op row told with
  | nil =>
    show setsGoT op (txts row) (told.map txts) [] = _
    rw [setsGoT, setsGo]
    cases op <;> rfl
  | cons w r ih =>
    show setsGoT op (txts row) (told.map txts) (w.2.2 :: txts r) = _
    rw [setsGoT, setsGo]
    by_cases h1 : w.2.2 = [91]
    · rw [if_pos h1, if_pos h1]
      cases op
      · exact ih true [] told
      · rfl
    · rw [if_neg h1, if_neg h1]
      by_cases h2 : w.2.2 = [93]
      · rw [if_pos h2, if_pos h2]
        cases op
        · rfl
        · have := ih false [] (told ++ [row])
          rw [List.map_append] at this
          exact this
      · rw [if_neg h2, if_neg h2]
        cases op
        · have := ih false [] (told ++ [[w]])
          rw [List.map_append] at this
          exact this
        · have := ih true (row ++ [w]) told
          rw [show txts (row ++ [w]) = txts row ++ [w.2.2] by simp [txts]] at this
          exact this
theorem setsT_txts (ws : List P3) : setsT (txts ws) = (setsL ws).map (List.map txts) := goT false [] [] ws
theorem sets_lens (op : Bool) (row : List P3) (told : List (List P3)) (ws : List P3) (rows : List (List P3)) (h : setsGo op row told ws = some rows) : rows.length ≤ told.length + ws.length ∧ ∀ r ∈ rows, r ∈ told ∨ r.length ≤ row.length + ws.length := by
  induction ws generalizing op row told with
  | nil =>
    rw [setsGo] at h
    cases op
    · cases h
      exact ⟨by simp, fun r hr => .inl hr⟩
    · cases h
  | cons w r ih =>
    rw [setsGo] at h
    by_cases h1 : w.2.2 = [91]
    · rw [if_pos h1] at h
      cases op
      · obtain ⟨g1, g2⟩ := ih true [] told h
        refine ⟨by simp only [List.length_cons]; omega, fun x hx => (g2 x hx).imp id fun g => ?_⟩
        simp only [List.length_cons, List.length_nil] at g ⊢
        omega
      · cases h
    · rw [if_neg h1] at h
      by_cases h2 : w.2.2 = [93]
      · rw [if_pos h2] at h
        cases op
        · cases h
        · obtain ⟨g1, g2⟩ := ih false [] (told ++ [row]) h
          refine ⟨by simp only [List.length_cons, List.length_append, List.length_nil] at g1 ⊢; omega, fun x hx => ?_⟩
          rcases g2 x hx with g | g
          · rcases List.mem_append.1 g with g | g
            · exact .inl g
            · simp only [List.mem_singleton] at g
              subst g
              exact .inr (by omega)
          · exact .inr (by simp only [List.length_cons, List.length_nil] at g ⊢; omega)
      · rw [if_neg h2] at h
        cases op
        · obtain ⟨g1, g2⟩ := ih false [] (told ++ [[w]]) h
          refine ⟨by simp only [List.length_cons, List.length_append, List.length_nil] at g1 ⊢; omega, fun x hx => ?_⟩
          rcases g2 x hx with g | g
          · rcases List.mem_append.1 g with g | g
            · exact .inl g
            · simp only [List.mem_singleton] at g
              subst g
              exact .inr (by simp only [List.length_cons, List.length_nil]; omega)
          · exact .inr (by simp only [List.length_cons, List.length_nil] at g ⊢; omega)
        · obtain ⟨g1, g2⟩ := ih true (row ++ [w]) told h
          refine ⟨by simp only [List.length_cons]; omega, fun x hx => (g2 x hx).imp id fun g => ?_⟩
          simp only [List.length_cons, List.length_append, List.length_nil] at g ⊢
          omega
theorem setsL_lens {ws : List P3} {rows : List (List P3)} (h : setsL ws = some rows) : rows.length ≤ ws.length ∧ ∀ r ∈ rows, r.length ≤ ws.length := by
  obtain ⟨h1, h2⟩ := sets_lens _ _ _ _ _ h
  exact ⟨by simpa using h1, fun r hr => (h2 r hr).elim (fun g => by simp at g) (fun g => by simpa using g)⟩
/-- an error ahead stays -/
theorem run_er (gl : Gl) (cls : List (B × List Int)) (er : Int) (he : er ≠ 0) (acc : List Int) (l : List B) : (setRun gl cls er acc l).1 = er := by
  cases l with
  | nil => rfl
  | cons t r =>
    have h : (setWd gl cls er acc t).1 = er := by
      unfold setWd
      split
      · split
        · rfl
        · show eC er 23 = er
          unfold eC
          rw [if_neg he]
      · show eGl gl er t = er
        unfold eGl
        rw [if_neg (by intro h; exact he h.1)]
    rw [setRun, if_pos (by rw [h]; exact he)]
    exact h
theorem set_wd (gl : Gl) (cls : List (B × List Int)) (acc : List Int) (t : B) : (∃ e, setOne gl cls t = .error e ∧ e ≠ 0 ∧ (setWd gl cls 0 acc t).1 = e) ∨ (∃ c, setOne gl cls t = .ok c ∧ setWd gl cls 0 acc t = (0, acc ++ c)) := by
  unfold setWd
  rcases at_cases t with ⟨r, h1, h2, h3⟩ | ⟨h1, h2, h3⟩
  · rw [h3, h2]
    subst h1
    show (∃ e, setOne gl cls (64 :: r) = _ ∧ _) ∨ _
    have hs : setOne gl cls (64 :: r) = match cls.lookup r with | some c => .ok c | none => .error 23 := rfl
    rw [hs]
    cases cls.lookup r with
    | none => exact .inl ⟨23, rfl, by decide, rfl⟩
    | some c => exact .inr ⟨c, rfl, rfl⟩
  · rw [h2, h1]
    have hs : setOne gl cls t = match gl.lookup t with | some n => .ok [(n : Int)] | none => .error 23 := by
      unfold setOne
      split
      · rename_i r
        exact absurd rfl (h3 r)
      · rfl
    rw [hs]
    simp only [Bool.false_eq_true, if_false]
    unfold eGl vGl
    cases gl.lookup t with
    | none => exact .inl ⟨23, rfl, by decide, rfl⟩
    | some n => exact .inr ⟨[(n : Int)], rfl, rfl⟩
theorem run_setGo (gl : Gl) (cls : List (B × List Int)) (acc : List Int) (l : List B) (ha : acc.length ≤ 1000) : (∃ e, setGo gl cls acc l = .error e ∧ e ≠ 0 ∧ (setRun gl cls 0 acc l).1 = e) ∨ (∃ g, setGo gl cls acc l = .ok g ∧ setRun gl cls 0 acc l = (0, g) ∧ g.length ≤ 1000) := by
  induction l generalizing acc with
  | nil => exact .inr ⟨acc, rfl, rfl, ha⟩
  | cons t r ih =>
    rcases set_wd gl cls acc t with ⟨e, h1, h2, h3⟩ | ⟨c, h1, h2⟩
    · refine .inl ⟨e, by rw [setGo, h1], h2, ?_⟩
      rw [setRun, if_pos (by rw [h3]; exact h2)]
      exact h3
    · rw [setGo, h1]
      by_cases h4 : 1000 < (acc ++ c).length
      · refine .inl ⟨2, by simp only [if_pos h4], by decide, ?_⟩
        rw [run_many h2 h4]
      · simp only [if_neg h4]
        rw [run_on h2 (by omega)]
        exact ih (acc ++ c) (by omega)
section
variable {w w' : World} {Bd p gm cm : Nat} {gl : Gl} {s : PS} {rv : Rows} {K : Nat}
theorem PSt.newClass (h : PSt w Bd p gm cm gl s rv K) {t : B} {l : List Int} {A : Option Addr} {c : Nat} (hsl : Sl IntR 1 w (Fz w rv) A l) (hl : l.length ≤ 2000) (hn : s.cls.lookup t = none) {f : B → Option Value}
    (hf : ∀ t, (s.cls.lookup t = none ∧ f t = none) ∨ ∃ l A c, s.cls.lookup t = some l ∧ f t = some (.slice A l.length c) ∧ Sl IntR 1 w (Fz w rv) A l ∧ l.length ≤ 2000)
    (hm : MapF embB w' cm (fun t' => if t' = t then some (.slice A l.length c) else f t')) (hg : w.grownBy w' (some cm)) :
    PSt w' Bd p gm cm gl { s with cls := s.cls ++ [(t, l)] } rv K ∧ KQ cm w w' ∧ Below Bd w w' := by
  obtain ⟨f0, f1, f2⟩ := h.cls
  have hr' : ∀ g, some cm = some g → ∀ t cs, Bk w g t cs → dataT t = false := fun g e t' cs' hb => by
    injection e with e
    subst e
    exact (f1.not_bk hb).elim
  have ht : Tr w rv w' rv := Tr.other hg hr'
  refine ⟨{ par := h.par.keep (hg.block p h.par.lt fun e => ?_), live := h.live.other hg hr', fnt := h.fnt.tr ht, gmp := h.gmp.grown hg fun e => ?_, glI := h.glI, cls := ⟨_, hm, fun x => ?_⟩, few := h.few, low := h.low }, KQ.row hg fun g e => ?_, (Below.refl Bd w).grown hg h.size (fun g e => ?_)⟩
  · injection e with e
    subst e
    exact f1.not_bk h.par
  · injection e with e
    exact h.low.2.2.2 e
  · show ((s.cls ++ [(t, l)]).lookup x = none ∧ _) ∨ _
    rw [List.lookup_append]
    by_cases hx : x = t
    · subst hx
      refine .inr ⟨l, A, c, ?_, if_pos rfl, ht.sl IntR.ok hsl, hl⟩
      rw [hn]
      simp
    · rw [if_neg hx]
      have hxt : (x == t) = false := by simpa using hx
      have h0 : ([(t, l)] : List (B × List Int)).lookup x = none := by simp [List.lookup, hxt]
      rw [h0, Option.or_none]
      rcases hf x with g | ⟨l', A', c', e1, e2, e3, e4⟩
      · exact .inl g
      · exact .inr ⟨l', A', c', e1, e2, ht.sl IntR.ok e3, e4⟩
  · injection e with e
    subst e
    obtain ⟨es, ck, hh⟩ := f1.isMap
    exact ⟨_, hh, fun hk => hk rfl⟩
  · injection e with e
    subst e
    exact h.low.2.2.1
end
theorem rClass_none (gl : Gl) (s : PS) (t1 : B) (r : List B) (h : ∀ row, setsT r ≠ some [row]) : rClass gl s (t1 :: r) = .error 22 := by
  show (match setsT r with | some [row] => _ | _ => _) = _
  split
  · rename_i row he
    exact absurd he (h row)
  · rfl
theorem rClass_some (gl : Gl) (s : PS) (t1 : B) (r row : List B) (h : setsT r = some [row]) : rClass gl s (t1 :: r) = if eName 0 t1 ≠ 0 then .error (eName 0 t1) else match setGo gl s.cls [] row with
      | .error e => .error e
      | .ok g => if (s.cls.lookup t1).isSome then .error 24 else .ok { s with cls := s.cls ++ [(t1, g)] } := by
  show (match setsT r with | some [row] => _ | _ => _) = _
  rw [h]
  rfl
/-- what the class's reading tells -/
theorem rClass_err (gl : Gl) (s : PS) (t1 : B) (r row : List B) (h : setsT r = some [row]) (he : (setRun gl s.cls (eName 0 t1) [] row).1 ≠ 0) : rClass gl s (t1 :: r) = .error (setRun gl s.cls (eName 0 t1) [] row).1 := by
  rw [rClass_some gl s t1 r row h]
  by_cases h0 : eName 0 t1 = 0
  · rw [h0] at he ⊢
    rw [if_neg (by simp)]
    rcases run_setGo gl s.cls [] row (by simp) with ⟨e, h1, h2, h3⟩ | ⟨g, h1, h2, h3⟩
    · rw [h1, h3]
    · rw [h2] at he
      exact absurd rfl he
  · rw [if_pos h0, run_er _ _ _ h0]
theorem rClass_ok (gl : Gl) (s : PS) (t1 : B) (r row : List B) (h : setsT r = some [row]) (he : (setRun gl s.cls (eName 0 t1) [] row).1 = 0) : rClass gl s (t1 :: r) = (if (s.cls.lookup t1).isSome then .error 24 else .ok { s with cls := s.cls ++ [(t1, (setRun gl s.cls (eName 0 t1) [] row).2)] }) ∧ (setRun gl s.cls (eName 0 t1) [] row).2.length ≤ 1000 := by
  rw [rClass_some gl s t1 r row h]
  by_cases h0 : eName 0 t1 = 0
  · rw [h0] at he ⊢
    rw [if_neg (by simp)]
    rcases run_setGo gl s.cls [] row (by simp) with ⟨e, h1, h2, h3⟩ | ⟨g, h1, h2, h3⟩
    · exact absurd (h3.symm.trans he) h2
    · rw [h1, h2]
      exact ⟨rfl, h3⟩
  · rw [run_er _ _ _ h0] at he
    exact absurd he h0
theorem run_i64 (gl : Gl) (cls : List (B × List Int)) (hg : ∀ t n, gl.lookup t = some n → n ≤ 1000000000) (hc : ∀ t l, cls.lookup t = some l → ∀ x ∈ l, I64 x) (er : Int) (acc : List Int) (ha : ∀ x ∈ acc, I64 x) (l : List B) : ∀ x ∈ (setRun gl cls er acc l).2, I64 x := by
  have hw : ∀ er acc t, (∀ x ∈ acc, I64 x) → ∀ x ∈ (setWd gl cls er acc t).2, I64 x := by
    intro er acc t ha
    unfold setWd
    split
    · split
      · rename_i c hcl
        intro x hx
        rcases List.mem_append.1 hx with h | h
        · exact ha x h
        · exact hc _ _ hcl x h
      · exact ha
    · intro x hx
      rcases List.mem_append.1 hx with h | h
      · exact ha x h
      · simp only [List.mem_singleton] at h
        subst h
        exact vGl_i64 hg t
  induction l generalizing er acc with
  | nil => exact ha
  | cons t r ih =>
    rw [setRun]
    split
    · exact hw er acc t ha
    · split
      · exact hw er acc t ha
      · exact ih _ _ (hw er acc t ha)
theorem Sl.ints {w : World} {S : Bs} {A : Option Addr} {l : List Int} (h : Sl IntR 1 w S A l) : ∀ x ∈ l, I64 x := by
  intro x hx
  obtain ⟨k, hk⟩ := List.mem_iff_getElem?.1 hx
  obtain ⟨b, o, x', _, _, hx', _, hi⟩ := h.int (List.getElem?_eq_some_iff.1 hk).1
  have := hx'.out
  rw [hk] at this
  cases this
  exact hi
theorem PSt.clsI {w : World} {Bd p gm cm : Nat} {gl : Gl} {s : PS} {rv : Rows} {K : Nat} (h : PSt w Bd p gm cm gl s rv K) : ∀ t l, s.cls.lookup t = some l → ∀ x ∈ l, I64 x := by
  intro t l hl
  obtain ⟨f, h1, h2⟩ := h.cls
  rcases h2 t with ⟨g, _⟩ | ⟨l', A, c, e1, e2, e3, e4⟩
  · rw [g] at hl; cases hl
  · rw [e1] at hl
    cases hl
    exact e3.ints
end Go.Proofs.YtkijckccfookeaaGreatDoor
