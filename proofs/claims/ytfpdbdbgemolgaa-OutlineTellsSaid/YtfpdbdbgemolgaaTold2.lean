/- The contract of fleuronlaw03.told. -/
import Derived.Test.YtfpdbdbgemolgaaTold
namespace Go.Proofs.Ytfpdbdbgemolgaa
open Go.RowKit Go.Shelf
attribute [local go_sem] Oper.semAt_some
attribute [-go_sem] Builtin.append_

/-- rows of points: a slice of slices -/
def RowsIn3 (w : World) (hs : List Value) (rows : List (List P3)) : Prop :=
  hs.length = rows.length ∧ ∀ (i : Nat) (r : List P3), rows[i]? = some r → ∃ A k c, hs[i]? = some (Value.slice A k c) ∧ k ≤ c ∧ c ≤ 9223372036854775807 ∧ RdT w 40 A k 3 (c3s r)
def contL (ps : List P3) (l : List (Nat × Nat × Nat)) : List (List P3) := l.map fun p => seg ps p.2.1 p.2.2
def ToldP (w : World) (rows : List (List P3)) (e : Ending) (w' : World) : Prop :=
  ∃ v hs, e = .returned (.tuple #[v, .bool true]) ∧ w'.ownsRow w.heap.size 22 1 v hs.length hs ∧ RowsIn3 w' hs rows ∧ Below w.heap.size w w'
theorem info22 : (Try.prog.info? 22).map (fun i => (i.zero, i.size, i.bytes)) = some (some (Value.slice none 0 0), 1, 24) := by kernel_rfl
theorem eql59 (w : World) (f : Fn) (a b : Array Value) : (binOp .eql 59 (.func f a b) .nilFunc).run Try.prog w = .ok (.bool false) w := by kernel_rfl
theorem eg59 : Try.prog.eqGuardType Try.prog.depth 59 = false := by kernel_rfl
def hdr (x : Pc4) : Value := .slice (some ⟨x.2.2.2, x.2.1 * 3, none⟩) (x.2.2.1 + 1 - x.2.1) (x.2.2.1 + 1 - x.2.1)
theorem pcsF_idx (len : Nat) (es : List Int) : ∀ (k f i : Nat) (p : Nat × Nat × Nat), (pcsF len k f es)[i]? = some p → p.1 = k + i := by
  induction es with
  | nil => intro k f i p h; simp [pcsF] at h
  | cons e es ih =>
    intro k f i p h
    rw [pcsF] at h
    split at h
    · cases i with
      | zero => simp at h; subst h; rfl
      | succ i =>
        have := ih _ _ _ _ (by simpa using h)
        omega
    · simp at h
/-- one came out of its turn -/
def BxT (xs : List Pc4) : Prop := ∃ pre x, xs = pre ++ [x] ∧ x.1 ≠ pre.length
theorem bx_no (n : Nat) (es : List Int) (xs : List Pc4) (h : SpC n es xs) (hb : BxT xs) : False := by
  obtain ⟨g, hg⟩ := h
  obtain ⟨pre, x, rfl, hx⟩ := hb
  obtain ⟨t, ht⟩ := hg
  have h1 : ((pcsF n 0 0 es).map (fun p => (p.1, p.2.1, p.2.2, g)))[pre.length]? = some x := by rw [← ht]; simp
  simp only [List.getElem?_map, Option.map_eq_some_iff] at h1
  obtain ⟨p, hp, rfl⟩ := h1
  exact hx (by have := pcsF_idx n es 0 0 _ _ hp; dsimp only; omega)
theorem RdT.seg3 {w : World} {t : TypeId} {g o n : Nat} {ps : List P3} (h : RdT w t (some ⟨g, o, none⟩) n 3 (c3s ps)) {f e : Nat} (he : e < n) : RdT w t (some ⟨g, o + f * 3, none⟩) (e + 1 - f) 3 (c3s (seg ps f e)) := by
  refine ⟨(h.rd.seg3 (f := f) he).1, fun hn => ?_⟩
  obtain ⟨b, o', cur, e1, hb, hc⟩ := h.2 (by omega)
  simp only [Option.some.injEq, Addr.mk.injEq, and_true] at e1
  obtain ⟨rfl, rfl⟩ := e1
  refine ⟨g, o + f * 3, cur, rfl, hb, fun j u hu => ?_⟩
  rw [seg, c3s_take, c3s_drop, List.getElem?_take] at hu
  split at hu
  · rw [List.getElem?_drop] at hu
    rw [Nat.add_assoc]
    exact hc _ _ hu
  · cases hu
def TI (w : World) (pre : List Pc4) (W : World) : Prop :=
  (∃ v, Boxed W (w.heap.size + 1 + 1 + 1 + 1) 48 v ∧ W.ownsRow (w.heap.size + 1 + 1 + 1) 22 1 v pre.length (pre.map hdr) ∧ v.ownBlock ≠ some (w.heap.size + 1 + 1 + 1 + 1)) ∧ Bk W (w.heap.size + 1) 48 #[.slice none 0 0] ∧ Bk W (w.heap.size + 1 + 1) 4 #[.bool false] ∧ Below w.heap.size w W
theorem ti_own (w : World) (B : Nat) (hB : w.heap.size ≤ B) : OwnFrom B (TI w) := by
  intro s A C row hs hg hr
  obtain ⟨⟨v, h1, h2, h5⟩, h3, h4, h6⟩ := hs
  have hr' : ∀ r, row = some r → ∃ o : Obj, A.heap[r]? = some o ∧ o.isCells = false := fun r e => (hr r e).2
  refine ⟨⟨v, (grownBy_keeps_cells hg hr' h1 rfl).trans h1, row_own (β := Unit) _ 22 1 s.length v (fun _ => s.map hdr) () A C row h2 hg hr', h5⟩, (grownBy_keeps_cells hg hr' h3 rfl).trans h3, (grownBy_keeps_cells hg hr' h4 rfl).trans h4, ?_⟩
  exact h6.grown hg h6.size (fun k e => Nat.le_trans hB (hr k e).1)
/-- what the round's append does -/
theorem toldApp (w W : World) (pre : List Pc4) (x : Pc4) (A0 : Option Addr) (c0 : Nat) (hbx : Boxed W (w.heap.size + 1 + 1 + 1 + 1) 48 (.slice A0 pre.length c0)) (hrow : W.ownsRow (w.heap.size + 1 + 1 + 1) 22 1 (.slice A0 pre.length c0) pre.length (pre.map hdr))
    (hob : (Value.slice A0 pre.length c0).ownBlock ≠ some (w.heap.size + 1 + 1 + 1 + 1)) (h1 : Bk W (w.heap.size + 1) 48 #[.slice none 0 0]) (h2 : Bk W (w.heap.size + 1 + 1) 4 #[.bool false]) (hb : Below w.heap.size w W) (hl : pre.length ≤ 100000) :
    ∃ A3 c3 w3, (Builtin.append_ #[48, 48] 48 #[.slice A0 pre.length c0, .slice (some ⟨W.heap.size, 0, none⟩) 1 1]).run Try.prog (W.alloc (.cells #[hdr x] 22)) = .ok (.slice A3 (pre.length + 1) c3) w3 ∧
      w3.cell? ⟨w.heap.size + 1 + 1 + 1 + 1, 0, none⟩ = some (.slice A0 pre.length c0) ∧ w3.frozen? ⟨w.heap.size + 1 + 1 + 1 + 1, 0, none⟩ = false ∧
      TI w (pre ++ [x]) (w3.setCell ⟨w.heap.size + 1 + 1 + 1 + 1, 0, none⟩ (.slice A3 (pre.length + 1) c3)) ∧ Rg (w.heap.size + 1 + 1 + 1 + 1) W (w3.setCell ⟨w.heap.size + 1 + 1 + 1 + 1, 0, none⟩ (.slice A3 (pre.length + 1) c3)) ∧ KeepsOthers W (w3.setCell ⟨w.heap.size + 1 + 1 + 1 + 1, 0, none⟩ (.slice A3 (pre.length + 1) c3)) := by
  obtain ⟨i0, hi0, hz0, hz1, hz2⟩ := info_parts info22
  have hsz := hbx.lt
  obtain ⟨v3, w3, hrun, hown, hg, hat⟩ := run_append_any (P := Try.prog) (W.alloc (.cells #[hdr x] 22)) (w.heap.size + 1 + 1 + 1) 48 48 22 i0 _ 1 24 Try.underlying48 hi0 hz0 hz1 hz2 rfl (by decide) (.slice A0 pre.length c0) pre.length _ (hrow.alloc _) (W.heap.size + 1) (some ⟨W.heap.size, 0, none⟩) 1 1 [hdr x] (Rd.new W #[hdr x] 22 1 1 rfl) (by simp [hdr, Value.oneCell']) (by simp only [maxLen]; omega) (by omega) (by simp; omega)
  obtain ⟨A3, c3, rfl, -⟩ := Rd.of_own hown
  have hfar : ∀ k, k < W.heap.size → some k ≠ (Value.slice A0 pre.length c0).ownBlock → w3.heap[k]? = W.heap[k]? := fun k hk hne => (hg.block k (by simp; omega) hne).trans (Below.heap_alloc _ _ _ hk)
  have hx3 : Boxed w3 (w.heap.size + 1 + 1 + 1 + 1) 48 (.slice A0 pre.length c0) := (hfar _ hsz (fun e => hob e.symm)).trans hbx
  have hlow : ∀ k, k < w.heap.size + 1 + 1 + 1 → some k ≠ (Value.slice A0 pre.length c0).ownBlock := fun k hk e => by have := (hrow.lt k e.symm).1; omega
  have hs3 : W.heap.size + 1 ≤ w3.heap.size := by have := hg.size; simpa using this
  have hob3 : (Value.slice A3 (pre.length + 1) c3).ownBlock ≠ some (w.heap.size + 1 + 1 + 1 + 1) := by
    rcases hat with h | h
    · rw [h]; exact hob
    · rw [h]
      simp
      omega
  refine ⟨A3, c3, w3, hrun, hx3.cell, hx3.frozen, ⟨⟨_, Boxed.set _ hx3, ?_, hob3⟩, ?_, ?_, ?_⟩, ?_, ?_⟩
  · have h := ownsRow_setBox hown (g := w.heap.size + 1 + 1 + 1 + 1) (t := 48) (cs := #[.slice A0 pre.length c0]) hx3 (by decide) 0 (.slice A3 (pre.length + 1) c3)
    simpa using h
  · exact Bk.far ((hfar _ (by omega) (hlow _ (by omega))).trans h1) (by simp) _
  · exact Bk.far ((hfar _ (by omega) (hlow _ (by omega))).trans h2) (by simp) _
  · exact ((hb.alloc hb.size _).grown hg (by simp; omega) (fun g hg' => by have := (hrow.lt g hg').1; omega)).setCell (by simp; omega) _
  · intro v hv
    have hve : v = .slice A0 pre.length c0 := by
      have a1 : W.heap[w.heap.size + 1 + 1 + 1 + 1]? = _ := hv
      have a2 : W.heap[w.heap.size + 1 + 1 + 1 + 1]? = _ := hbx
      rw [a1] at a2
      simpa using a2
    subst hve
    refine ⟨_, Boxed.set _ hx3, ?_, fun b o hb' hne ho hc => ?_, by simp; omega⟩
    · rcases hat with h | h
      · exact .inl h
      · exact .inr ⟨_, h, by simp⟩
    · exact (Below.heap_setCell w3 ⟨w.heap.size + 1 + 1 + 1 + 1, 0, none⟩ _ b hb').trans ((hfar b (Array.getElem?_eq_some_iff.1 ho).1 hne).trans ho)
  · refine KeepsOthers.trans (KeepsOthers.trans (KeepsOthers.alloc W _) (KeepsOthers.of_grownBy hg (fun j o hj ho => ?_))) (KeepsOthers.setCell _ _ _)
    obtain ⟨cur, hk⟩ := own_bk (hrow.alloc (.cells #[hdr x] 22)) j hj
    have hk2 : (W.alloc (.cells #[hdr x] 22)).heap[j]? = _ := hk
    rw [hk2] at ho
    cases ho
    rfl

set_option maxRecDepth 100000 in
set_option maxHeartbeats 4000000 in
theorem told_ok (w : World) (B : Nat) (A E : Option Addr) (n c m d : Nat) (ps : List P3) (es : List Int) (hA : Rd w B A n 3 (c3s ps)) (hE : Rd w B E m 1 (cIs es)) (hB : B ≤ w.heap.size) (hn : n ≤ 100000) (hm : m ≤ 100000) :
    Calls Try.prog 26 #[.agg #[.slice A n c, .slice E m d]] w (ToldP w (contL ps (pcsF n 0 0 es))) := by
  obtain ⟨i0, hi0, hz0, hz1, hz2⟩ := info_parts info22
  have hq := eql59
  have hq2 := eg59
  refine (callsIn_wide (n := 20)).1 ?_
  refine callsIn_of_wp_marks Try.func26 rfl trivial ?_ rfl
  simp only [Try.ntmps26, List.size_toArray, List.length_cons, List.length_nil, Nat.reduceAdd, Nat.reduceSub, Array.replicate_succ, Array.replicate_zero, List.push_toArray, List.append_toArray, List.nil_append, List.cons_append]
  gi_wp2_with fail
  refine ⟨trivial, ?_⟩
  obtain ⟨W5, hW5⟩ : ∃ W5, (((((w.alloc (.cells #[.slice A n c, .slice E m d] 25)).alloc (.cells #[.slice none 0 0] 48)).alloc (.cells #[.bool false] 4)).alloc (.cells #[] 22)).alloc (.cells #[.slice (some ⟨w.heap.size + 1 + 1 + 1, 0, none⟩) 0 0] 48)) = W5 := ⟨_, rfl⟩
  have hs5 : W5.heap.size = w.heap.size + 5 := by rw [← hW5]; simp
  have hb5 : Below w.heap.size w W5 := by rw [← hW5]; exact (((((Below.refl _ _).alloc (Nat.le_refl _) _).alloc (by simp) _).alloc (by simp; omega) _).alloc (by simp; omega) _).alloc (by simp; omega) _
  have hr5 : Bk W5 (w.heap.size + 1) 48 #[.slice none 0 0] := by
    rw [← hW5]
    exact (((bk2 w _ (.slice none 0 0) 48).alloc _).alloc _).alloc _
  have hk5 : Bk W5 (w.heap.size + 1 + 1) 4 #[.bool false] := by
    rw [← hW5]
    have h := bk2 (w.alloc (.cells #[.slice A n c, .slice E m d] 25)) (.cells #[.slice none 0 0] 48) (.bool false) 4
    rw [World.size_alloc] at h
    exact (h.alloc _).alloc _
  have ho5 : Boxed W5 (w.heap.size + 1 + 1 + 1 + 1) 48 (.slice (some ⟨w.heap.size + 1 + 1 + 1, 0, none⟩) 0 0) := by
    rw [← hW5]
    have h := Boxed.new ((((w.alloc (.cells #[.slice A n c, .slice E m d] 25)).alloc (.cells #[.slice none 0 0] 48)).alloc (.cells #[.bool false] 4)).alloc (.cells #[] 22)) 48 (.slice (some ⟨w.heap.size + 1 + 1 + 1, 0, none⟩) 0 0)
    simp only [World.size_alloc] at h
    exact h
  have hrow5 : W5.ownsRow (w.heap.size + 1 + 1 + 1) 22 1 (.slice (some ⟨w.heap.size + 1 + 1 + 1, 0, none⟩) 0 0) 0 [] := by
    rw [← hW5]
    have h := World.ownsRow_made (size := 1) (e := 22) (base := w.heap.size + 1 + 1 + 1) (((w.alloc (.cells #[.slice A n c, .slice E m d] 25)).alloc (.cells #[.slice none 0 0] 48)).alloc (.cells #[.bool false] 4)) #[] 0 (by simp) (by simp [maxLen]) rfl
    simp only [World.size_alloc] at h
    exact h.alloc _
  rw [hW5]
  clear hW5
  refine (callsIn_wide.2 (contours_call W5 B A E n c m d ps es (hA.below hb5 hB) (hE.below hb5 hB) (by omega) (by omega) (by omega))).mono ?_
  rintro e w6 ⟨v6, u6, pb, eb, rfl, hown6, hownE6, hP6, hQ6, hpb, heb, hb6⟩
  have hs6 := hb6.size
  obtain ⟨A6, c6, rfl, hrd6⟩ := Rd.of_own hown6
  obtain ⟨E6, d6, rfl, hrdE6⟩ := Rd.of_own hownE6
  have ho6 : Boxed w6 (w.heap.size + 1 + 1 + 1 + 1) 48 (.slice (some ⟨w.heap.size + 1 + 1 + 1, 0, none⟩) 0 0) := (hb6.block _ ho5.lt).trans ho5
  have hit := cont_gives w6 n m pb eb (w.heap.size + 1 + 1 + 1 + 1) c6 d6 A6 E6 _ ps es hP6 hrd6 hQ6 hrdE6 ho6 (fun b o e => by
    have h1 := hownE6.lt b (by rw [e]; rfl)
    refine ⟨by omega, ?_, h1.2⟩
    simp [Value.ownBlock]
    omega) (fun b e => by
    simp [Value.ownBlock] at e
    omega) hn hm
  have hI0 : TI w [] w6 := ⟨⟨_, ho6, own_below hrow5 hb6, by simp [Value.ownBlock]⟩, hr5.below hb6, hk5.below hb6, hb5.trans (hb6.mono (by omega))⟩
  have Hit := Lib.hid hit
  clear hit hrow5 hr5 hk5 ho5 hb5 hA hE
  gi_wp2_with fail
  refine wpIn_range_all (n := 20) (gf := 53) (lb := #[.pointer (some ⟨pb, 0, none⟩), .pointer (some ⟨eb, 0, none⟩)]) (by omega) rfl (enters_of Try.func53 (by kernel_rfl) rfl) (fun _ => rfl) Hit.out (Bx := BxT) (bx_no n es)
    (fun h k => h.trans k) (Rg.putObj _) (SC.putObj n ps es) (TI w) (ti_own w _ (by omega)) hI0
    (fun x => { tmps := #[.agg #[.slice A n c, .slice E m d], .pointer (some ⟨w.heap.size, 0, none⟩), .pointer (some ⟨w.heap.size + 1, 0, none⟩), .pointer (some ⟨w.heap.size + 1 + 1, 0, none⟩), .pointer (some ⟨w.heap.size + 1 + 1 + 1 + 1, 0, none⟩), .func (.func 53) #[] #[.pointer (some ⟨pb, 0, none⟩), .pointer (some ⟨eb, 0, none⟩)], .int .i64 (x.1 : Int), hdr x, .slice (some ⟨w.heap.size + 1 + 1 + 1, 0, none⟩) 0 0, .agg #[.slice A n c, .slice E m d], .func (.func 53) #[] #[.pointer (some ⟨pb, 0, none⟩), .pointer (some ⟨eb, 0, none⟩)], .func (.func 53) #[] #[.pointer (some ⟨pb, 0, none⟩), .pointer (some ⟨eb, 0, none⟩)], .bool false, undef, .func (.func 53) #[] #[.pointer (some ⟨pb, 0, none⟩), .pointer (some ⟨eb, 0, none⟩)], .int .i64 (x.1 : Int), hdr x, undef, undef, undef, undef, undef, undef, undef, undef, undef, undef], defers := [] }) ?assign ?body ?done
  case assign =>
    intro l x W K hK
    simp only [encsC]
    gi_wp2
    exact hK
  case body =>
    rintro l pre x W ⟨⟨v, hbx, hrow, hob⟩, h1, h2, hbW⟩ hlen
    obtain ⟨A0, c0, rfl, -⟩ := Rd.of_own hrow
    have hcb := hbx.cell
    have zb := hbx.lt
    by_cases hx : x.1 = pre.length
    · obtain ⟨A3, c3, w3, hrun3, hxc3, hxf3, hpost⟩ := toldApp w W pre x A0 c0 hbx hrow hob h1 h2 hbW (by omega)
      have Hpost := Lib.hid hpost
      have hne : ((x.1 : Int) != (pre.length : Int)) = false := by simp [hx]
      clear hpost hx
      simp only [hdr] at hrun3 ⊢
      gi_wp2_with fail
      exact ⟨Hpost.out.1, Hpost.out.2.1, Hpost.out.2.2⟩
    · have hne : ((x.1 : Int) != (pre.length : Int)) = true := by rw [bne_iff_ne]; omega
      have c1 : W.cell? ⟨w.heap.size + 1, 0, none⟩ = some (.slice none 0 0) := h1.cell 0
      have c2 : W.cell? ⟨w.heap.size + 1 + 1, 0, none⟩ = some (.bool false) := h2.cell 0
      have f1 : W.frozen? ⟨w.heap.size + 1, 0, none⟩ = false := h1.frozen 0
      have f2 : W.frozen? ⟨w.heap.size + 1 + 1, 0, none⟩ = false := h2.frozen 0
      have Hbx : Hid (BxT (pre ++ [x])) := ⟨pre, x, rfl, hx⟩
      clear hx
      simp only [hdr]
      gi_wp2_with fail
      exact ⟨Hbx.out, (KeepsOthers.setCell _ _ _).trans (KeepsOthers.setCell _ _ _)⟩
  case done =>
    rintro D xs W hD hS ⟨⟨v, hbx, hrow, hob⟩, h1, h2, hbW⟩ hK
    have HS := Lib.hid hS
    clear hS
    obtain ⟨A0, c0, rfl, -⟩ := Rd.of_own hrow
    have hcb := hbx.cell
    have c1 : W.cell? ⟨w.heap.size + 1, 0, none⟩ = some (.slice none 0 0) := h1.cell 0
    have c2 : W.cell? ⟨w.heap.size + 1 + 1, 0, none⟩ = some (.bool false) := h2.cell 0
    have f1 : W.frozen? ⟨w.heap.size + 1, 0, none⟩ = false := h1.frozen 0
    have f2 : W.frozen? ⟨w.heap.size + 1 + 1, 0, none⟩ = false := h2.frozen 0
    gi_wp2_with fail
    obtain ⟨W3, hW3⟩ : ∃ W3, (W.setCell ⟨w.heap.size + 1, 0, none⟩ (.slice A0 xs.length c0)).setCell ⟨w.heap.size + 1 + 1, 0, none⟩ (.bool true) = W3 := ⟨_, rfl⟩
    rw [hW3]
    have hK3 : W3.heap[D]? = some (.deferred (some [])) := by rw [← hW3]; exact (KeepsOthers.setCell _ _ _).same D _ ((KeepsOthers.setCell _ _ _).same D _ hK rfl) rfl
    have hR1 : Bk W3 (w.heap.size + 1) 48 #[.slice A0 xs.length c0] := by rw [← hW3]; exact (h1.set 0 _).far (by simp) _
    have hR2 : Bk W3 (w.heap.size + 1 + 1) 4 #[.bool true] := by rw [← hW3]; exact (h2.far (by simp) _).set 0 _
    have hrow3 : W3.ownsRow (w.heap.size + 1 + 1 + 1) 22 1 (.slice A0 xs.length c0) xs.length (xs.map hdr) := by rw [← hW3]; exact ownsRow_setCell_below (ownsRow_setCell_below hrow (by first | omega | (simp; done) | (simp; omega)) _) (by first | omega | (simp; done) | (simp; omega)) _
    have hb3 : Below w.heap.size w W3 := by rw [← hW3]; exact (hbW.setCell (by simp) _).setCell (by simp; omega) _
    have hg3 : ∀ A k cs, RdT W 40 A k 3 cs → RdT W3 40 A k 3 cs := fun A k cs h => by
      rw [← hW3]
      refine RdT.grown (RdT.grown h (only_setCell (p := ⟨w.heap.size + 1, 0, none⟩) (World.grownBy.refl _ _) (.inl rfl) _) (fun g hg => by cases hg; exact ⟨_, 48, h1, by decide⟩)) (only_setCell (p := ⟨w.heap.size + 1 + 1, 0, none⟩) (World.grownBy.refl _ _) (.inl rfl) _) (fun g hg => by cases hg; exact ⟨_, 4, h2.far (by simp) _, by decide⟩)
    clear hW3
    refine ⟨by simp, .inl ⟨_, _, rfl, run_takeDeferred hK3, ?_⟩⟩
    have hDn : ∀ k, k < w6.heap.size → (W3.putObj D (.deferred none)).heap[k]? = W3.heap[k]? := fun k hk => World.putObj_heap_other (by omega)
    have hR3 : (W3.putObj D (.deferred none)).cell? ⟨w.heap.size + 1, 0, none⟩ = some (.slice A0 xs.length c0) := (World.cell?_of_block (w := W3) (a := ⟨w.heap.size + 1, 0, none⟩) (hDn (w.heap.size + 1) (by omega))).trans (hR1.cell 0)
    have hR4 : (W3.putObj D (.deferred none)).cell? ⟨w.heap.size + 1 + 1, 0, none⟩ = some (.bool true) := (World.cell?_of_block (w := W3) (a := ⟨w.heap.size + 1 + 1, 0, none⟩) (hDn (w.heap.size + 1 + 1) (by omega))).trans (hR2.cell 0)
    refine ⟨.tuple #[.slice A0 xs.length c0, .bool true], by simp [results, Try.results26, go_sem, hR3, hR4], .slice A0 xs.length c0, xs.map hdr, rfl, ?_, ?_, ?_⟩
    · have h := ownsRow_base (ownsRow_putObj hrow3 (.deferred none) hK3 rfl) (show w.heap.size ≤ w.heap.size + 1 + 1 + 1 by omega)
      simpa using h
    · obtain ⟨g, rfl, hrd⟩ := HS.out
      refine ⟨by simp [contL], fun i r hi => ?_⟩
      simp only [contL, List.getElem?_map, Option.map_eq_some_iff] at hi
      obtain ⟨p, hp, rfl⟩ := hi
      obtain ⟨-, hp1, hp2⟩ := pcsF_mem n es 0 0 p (List.mem_of_getElem? hp)
      refine ⟨some ⟨g, p.2.1 * 3, none⟩, p.2.2 + 1 - p.2.1, p.2.2 + 1 - p.2.1, by simp [hp, hdr], Nat.le_refl _, by omega, ?_⟩
      have a1 := (hg3 _ _ _ (hrd (by omega))).seg3 (f := p.2.1) hp2
      rw [Nat.zero_add] at a1
      exact a1.other (grownBy_putObj' W3 D _) (fun q hq => by cases hq; exact ⟨_, hK3, rfl⟩)
    · exact hb3.trans (belowK_b (w := w) (Nat.le_refl _) W3 D _ _ (by omega) hK3 rfl rfl)
end Go.Proofs.Ytfpdbdbgemolgaa
