/- The contract of words.Lines. -/
import Derived.Test.YtkijckccfookeaaGreatDoorM34
import Derived.Test.YtkijckccfookeaaGreatDoorWSplit
namespace Go.Proofs.YtkijckccfookeaaGreatDoor
open Go.RowKit Go.Shelf
attribute [local go_sem] Oper.semAt_some
attribute [-go_sem] Builtin.append_

theorem infoW32 : (Tryz.prog.info? 119).map (fun i => (i.zero, i.size, i.bytes)) = some (some (.slice none 0 0), 1, 24) := by kernel_rfl
theorem seq_call (w : World) (s : B) : Calls Tryz.prog 70 #[.string ⟨s.toArray⟩, .string ⟨#[10]⟩] w fun e w' =>
    e = .returned (.func (.func 160) #[] #[.pointer (some ⟨w.heap.size + 1, 0, none⟩), .pointer (some ⟨w.heap.size, 0, none⟩), .pointer (some ⟨w.heap.size + 1 + 1, 0, none⟩)]) ∧
      w' = ((w.alloc (.cells #[.string ⟨s.toArray⟩] 9)).alloc (.cells #[.string ⟨#[10]⟩] 9)).alloc (.cells #[.int .i64 0] 3) := by
  go_enter Tryz.func70, Tryz.ntmps70
  go_wp2
  go_ret
  exact ⟨rfl, rfl⟩
def WI (w : World) (pre : List Ln) (W : World) : Prop :=
  Bk W (w.heap.size + 1) 3 #[.int .i64 pre.length] ∧ (∃ z, Bk W (w.heap.size + 1 + 1) 9 #[z]) ∧
    (∃ A c hs, Bk W w.heap.size 109 #[.slice A hs.length c] ∧ W.ownsRow (w.heap.size + 5) 119 1 (.slice A hs.length c) hs.length hs ∧ RowsIn 124 W hs (linesFrom 1 (pre.map (·.1)))) ∧
    Below w.heap.size w W ∧ w.heap.size + 5 ≤ W.heap.size
theorem own_cells {A C : World} {row : Option Nat} (hg : A.grownBy C row) (hr : ∀ r, row = some r → ∃ o : Obj, A.heap[r]? = some o ∧ o.isCells = false) {base e size n : Nat} {v : Value} {xs : List Value} (h : A.ownsRow base e size v n xs) : C.ownsRow base e size v n xs := by
  refine h.kept hg ?_
  rcases h.2 with ⟨rfl, _⟩ | ⟨g, cap, cur, rfl, _, hh, _⟩
  · exact .inl rfl
  · refine .inr (fun e => ?_)
    obtain ⟨o, ho, hc⟩ := hr g e.symm
    rw [hh] at ho
    cases ho
    cases hc
theorem wi_own (w : World) (B : Nat) (hB : w.heap.size ≤ B) : OwnFrom B (WI w) := by
  intro s A C row hs hg hr
  obtain ⟨h1, ⟨z, h2⟩, ⟨A1, c1, hs1, h3, h4, h5⟩, h6, h7⟩ := hs
  have hr' : ∀ r, row = some r → ∃ o : Obj, A.heap[r]? = some o ∧ o.isCells = false := fun r e => (hr r e).2
  refine ⟨(grownBy_keeps_cells hg hr' h1 rfl).trans h1, ⟨z, (grownBy_keeps_cells hg hr' h2 rfl).trans h2⟩, ⟨A1, c1, hs1, (grownBy_keeps_cells hg hr' h3 rfl).trans h3, own_cells hg hr' h4, h5.kept fun _ _ _ hrd => hrd.other hg hr'⟩, ?_, Nat.le_trans h7 hg.size⟩
  exact h6.grown hg h6.size (fun k e => Nat.le_trans hB (hr k e).1)
theorem rdT_set {w : World} {t t' : TypeId} {A : Option Addr} {n size g : Nat} {cs : List Value} {cur : Array Value} (h : RdT w t A n size cs) (hb : Bk w g t' cur) (hne : t ≠ t') (i : Nat) (u : Value) : RdT (w.setCell ⟨g, i, none⟩ u) t A n size cs :=
  h.grown (only_setCell (p := ⟨g, i, none⟩) (World.grownBy.refl _ _) (.inl rfl) _) (fun r e => by cases e; exact ⟨cur, t', hb, hne⟩)
theorem wi_store (w : World) (pre : List Ln) (W : World) (v : Value) (h : WI w pre W) : WI w pre (W.setCell ⟨w.heap.size + 1 + 1, 0, none⟩ v) := by
  obtain ⟨h1, ⟨z, h2⟩, ⟨A1, c1, hs1, h3, h4, h5⟩, h6, h7⟩ := h
  refine ⟨h1.far (by simp) _, ⟨v, h2.set 0 _⟩, ⟨A1, c1, hs1, h3.far (by simp <;> omega) _, ownsRow_setCell_below h4 (by simp <;> omega) _, h5.kept fun _ _ _ hrd => rdT_set hrd h2 (by decide) 0 v⟩, h6.setCell (by simp; omega) _, by simpa using h7⟩
theorem keep_of {h : Nat} {W W' : World} (hk : ∀ b, h ≤ b → b < h + 3 → W'.heap[b]? = W.heap[b]?) : KeepT (SeqT h) W W' := by
  rintro b (rfl | rfl | rfl) o ho -
  · rw [hk _ (by omega) (by omega)]; exact ho
  · rw [hk _ (by omega) (by omega)]; exact ho
  · rw [hk _ (by omega) (by omega)]; exact ho
/-- what a round leaves, if the line has no words -/
theorem wi_none (w W w2 : World) (pre : List Ln) (x : Ln) (hI : WI w pre W) (hz : one x.1 = []) (hb : Below (W.setCell ⟨w.heap.size + 1, 0, none⟩ (.int .i64 ((pre.length : Int) + 1))).heap.size (W.setCell ⟨w.heap.size + 1, 0, none⟩ (.int .i64 ((pre.length : Int) + 1))) w2) :
    WI w (pre ++ [x]) w2 ∧ KeepT (SeqT (w.heap.size + 1 + 1)) W w2 ∧ KeepsOthers W w2 := by
  obtain ⟨h1, ⟨z, h2⟩, ⟨A1, c1, hs1, h3, h4, h5⟩, h6, h7⟩ := hI
  have hsz : (W.setCell ⟨w.heap.size + 1, 0, none⟩ (.int .i64 ((pre.length : Int) + 1))).heap.size = W.heap.size := by simp
  rw [hsz] at hb
  have e1 := h1.set 0 (.int .i64 ((pre.length : Int) + 1))
  have hblk : ∀ b, b < W.heap.size → w2.heap[b]? = _ := fun b hb' => hb.block b hb'
  refine ⟨⟨?_, ⟨z, ?_⟩, ⟨A1, c1, hs1, ?_, ?_, ?_⟩, ?_, ?_⟩, ?_, ?_⟩
  · have := (hblk _ h1.lt).trans e1
    simpa [Bk] using this
  · exact (hblk _ h2.lt).trans (h2.far (by simp) _)
  · exact (hblk _ h3.lt).trans (h3.far (by simp) _)
  · refine own_below (ownsRow_setCell_below h4 (a := ⟨w.heap.size + 1, 0, none⟩) (by simp) (.int .i64 ((pre.length : Int) + 1))) ?_
    rw [hsz]
    exact hb
  · rw [List.map_append, List.map_cons, List.map_nil, linesFrom_snoc, if_pos hz, List.append_nil]
    refine h5.kept fun _ _ _ hrd => (rdT_set hrd h1 (by decide) 0 (.int .i64 ((pre.length : Int) + 1))).below ?_
    rw [hsz]
    exact hb
  · exact (h6.setCell (by simp) _).trans (hb.mono (by omega))
  · have := hb.size
    rw [hsz] at this
    omega
  · exact keep_of fun b hb1 hb2 => (hblk b (by omega)).trans (Below.heap_setCell _ _ _ _ (by simp; omega))
  · refine (KeepsOthers.setCell W _ _).trans ⟨hb.size, fun j o hj _ => ?_⟩
    exact (hb.block j (by have := (Array.getElem?_eq_some_iff.1 hj).1; rw [hsz] at this; exact this)).trans hj
/-- what a round leaves, if the line has words -/
theorem wi_some (w W w2 : World) (pre : List Ln) (x : Ln) (A0 A2 : Option Addr) (c0 c2 : Nat) (hs0 : List Value) (hl : pre.length ≤ 1000000) (h1 : Bk W (w.heap.size + 1) 3 #[.int .i64 pre.length]) (h2 : ∃ z, Bk W (w.heap.size + 1 + 1) 9 #[z])
    (h3 : Bk W w.heap.size 109 #[.slice A0 hs0.length c0]) (h4 : W.ownsRow (w.heap.size + 5) 119 1 (.slice A0 hs0.length c0) hs0.length hs0) (h5 : RowsIn 124 W hs0 (linesFrom 1 (pre.map (·.1)))) (h6 : Below w.heap.size w W) (h7 : w.heap.size + 5 ≤ W.heap.size)
    (hz : one x.1 ≠ []) (hb : Below (W.setCell ⟨w.heap.size + 1, 0, none⟩ (.int .i64 ((pre.length : Int) + 1))).heap.size (W.setCell ⟨w.heap.size + 1, 0, none⟩ (.int .i64 ((pre.length : Int) + 1))) w2)
    (hown : w2.ownsRow (W.setCell ⟨w.heap.size + 1, 0, none⟩ (.int .i64 ((pre.length : Int) + 1))).heap.size 124 3 (.slice A2 (one x.1).length c2) (one x.1).length (c3s (num (pre.length + 1) (one x.1)))) :
    ∃ A3 c3 w3, (Builtin.append_ #[109, 109] 109 #[.slice A0 hs0.length c0, .slice (some ⟨w2.heap.size, 0, none⟩) 1 1]).run Tryz.prog (w2.alloc (.cells #[.slice A2 (one x.1).length c2] 119)) = .ok (.slice A3 (hs0.length + 1) c3) w3 ∧
      w2.cell? ⟨w.heap.size, 0, none⟩ = some (.slice A0 hs0.length c0) ∧ w3.cell? ⟨w.heap.size, 0, none⟩ = some (.slice A0 hs0.length c0) ∧ w3.frozen? ⟨w.heap.size, 0, none⟩ = false ∧
      WI w (pre ++ [x]) (w3.setCell ⟨w.heap.size, 0, none⟩ (.slice A3 (hs0.length + 1) c3)) ∧ KeepT (SeqT (w.heap.size + 1 + 1)) W (w3.setCell ⟨w.heap.size, 0, none⟩ (.slice A3 (hs0.length + 1) c3)) ∧ KeepsOthers W (w3.setCell ⟨w.heap.size, 0, none⟩ (.slice A3 (hs0.length + 1) c3)) := by
  obtain ⟨i0, hi0, hz0, hz1, hz2⟩ := info_parts infoW32
  obtain ⟨z, h2⟩ := h2
  have hsz : (W.setCell ⟨w.heap.size + 1, 0, none⟩ (.int .i64 ((pre.length : Int) + 1))).heap.size = W.heap.size := by simp
  rw [hsz] at hb
  rw [hsz] at hown
  have hhl : hs0.length ≤ 1000000 := by
    have a1 := h5.1
    have a2 := linesFrom_len 1 (pre.map (·.1))
    rw [List.length_map] at a2
    omega
  have hbs : W.heap.size ≤ w2.heap.size := by have := hb.size; rw [hsz] at this; exact this
  have hblk : ∀ b, b < W.heap.size → w2.heap[b]? = _ := fun b hb' => hb.block b hb'
  have hbW : ∀ b, b < W.heap.size → b ≠ w.heap.size + 1 → w2.heap[b]? = W.heap[b]? := fun b hb' hne => (hblk b hb').trans (Below.heap_setCell _ _ _ _ (by simpa using hne))
  have q4 : w2.ownsRow (w.heap.size + 5) 119 1 (.slice A0 hs0.length c0) hs0.length hs0 := by
    refine own_below (ownsRow_setCell_below h4 (a := ⟨w.heap.size + 1, 0, none⟩) (by simp) (.int .i64 ((pre.length : Int) + 1))) ?_
    rw [hsz]
    exact hb
  have q5 : RowsIn 124 w2 hs0 (linesFrom 1 (pre.map (·.1))) := by
    refine h5.kept fun _ _ _ hrd => (rdT_set hrd h1 (by decide) 0 (.int .i64 ((pre.length : Int) + 1))).below ?_
    rw [hsz]
    exact hb
  have q1 : Bk w2 (w.heap.size + 1) 3 #[.int .i64 ((pre.length : Int) + 1)] := (hblk _ h1.lt).trans (h1.set 0 _)
  have q2 : Bk w2 (w.heap.size + 1 + 1) 9 #[z] := (hbW _ (by omega) (by omega)).trans h2
  have q3 : Bk w2 w.heap.size 109 #[.slice A0 hs0.length c0] := (hbW _ (by omega) (by omega)).trans h3
  have q6 : Below w.heap.size w w2 := (h6.setCell (by simp) _).trans (hb.mono (by omega))
  obtain ⟨v3, w3, hrun, hown3, hg, hat⟩ := run_append_any (P := Tryz.prog) (w2.alloc (.cells #[.slice A2 (one x.1).length c2] 119)) (w.heap.size + 5) 109 109 119 i0 _ 1 24 Tryz.underlying109 hi0 hz0 hz1 hz2 rfl (by decide) (.slice A0 hs0.length c0) hs0.length _ (q4.alloc _) (w2.heap.size + 1) (some ⟨w2.heap.size, 0, none⟩) 1 1 [.slice A2 (one x.1).length c2] (Rd.new w2 #[.slice A2 (one x.1).length c2] 119 1 1 rfl) (by simp [Value.oneCell']) (by simp only [maxLen]; omega) (by omega) (by simp; omega)
  obtain ⟨A3, c3, rfl, -⟩ := Rd.of_own hown3
  have hlow : ∀ k, k < w.heap.size + 5 → some k ≠ (Value.slice A0 hs0.length c0).ownBlock := fun k hk e => by have := (q4.lt k e.symm).1; omega
  have hfar : ∀ k, k < w.heap.size + 5 → w3.heap[k]? = w2.heap[k]? := fun k hk => (hg.block k (by simp; omega) (hlow k hk)).trans (Below.heap_alloc _ _ _ (by omega))
  have x3 : Bk w3 w.heap.size 109 #[.slice A0 hs0.length c0] := (hfar _ (by omega)).trans q3
  have s3 : w2.heap.size + 1 ≤ w3.heap.size := by have := hg.size; simpa using this
  refine ⟨A3, c3, w3, hrun, q3.cell 0, x3.cell 0, x3.frozen 0, ⟨?_, ⟨z, ?_⟩, ⟨A3, c3, hs0 ++ [.slice A2 (one x.1).length c2], ?_, ?_, ?_⟩, ?_, ?_⟩, ?_, ?_⟩
  · have := Bk.far (p := ⟨w.heap.size, 0, none⟩) ((hfar _ (by omega)).trans q1) (by simp) (.slice A3 (hs0.length + 1) c3)
    simpa using this
  · exact Bk.far ((hfar _ (by omega)).trans q2) (by simp; omega) _
  · have := x3.set 0 (.slice A3 (hs0.length + 1) c3)
    simpa using this
  · have := ownsRow_setCell_below hown3 (a := ⟨w.heap.size, 0, none⟩) (by simp) (.slice A3 (hs0.length + 1) c3)
    simpa using this
  · rw [List.map_append, List.map_cons, List.map_nil, linesFrom_snoc, if_neg hz, List.length_map]
    have hrd : RdT w2 124 A2 (one x.1).length 3 (c3s (num (pre.length + 1) (one x.1))) := own_rdT hown
    have a1 := ((q5.snoc hrd (c := c2) (own_cap hown)).alloc (.cells #[.slice A2 (one x.1).length c2] 119)).grown (q4.alloc _) hg (by decide)
    exact a1.kept fun _ _ _ hr => rdT_set hr x3 (by decide) 0 _
  · exact ((q6.alloc q6.size _).grown hg (by simp; omega) (fun g hg' => by have := (q4.lt g hg').1; omega)).setCell (by simp) _
  · simp; omega
  · exact keep_of fun b hb1 hb2 => (Below.heap_setCell _ _ _ _ (by simp; omega)).trans ((hfar b (by omega)).trans (hbW b (by omega) (by omega)))
  · refine KeepsOthers.trans (KeepsOthers.trans (KeepsOthers.trans (KeepsOthers.trans (KeepsOthers.setCell W _ _) ⟨hb.size, fun j o hj _ => ?_⟩) (KeepsOthers.alloc w2 _)) (KeepsOthers.of_grownBy hg (fun j o hj ho => ?_))) (KeepsOthers.setCell _ _ _)
    · exact (hb.block j (by have := (Array.getElem?_eq_some_iff.1 hj).1; rw [hsz] at this; exact this)).trans hj
    · obtain ⟨cur, hk⟩ := own_bk (q4.alloc (.cells #[.slice A2 (one x.1).length c2] 119)) j hj
      have hk2 : (w2.alloc (.cells #[.slice A2 (one x.1).length c2] 119)).heap[j]? = _ := hk
      rw [hk2] at ho
      cases ho
      rfl
set_option maxRecDepth 100000 in
set_option maxHeartbeats 4000000 in
theorem lines_ok (w : World) (s : B) (hs : s.length ≤ 1000000) : Calls Tryz.prog 38 #[.string ⟨s.toArray⟩] w fun e w' => ∃ v, e = .returned v ∧ RetRows 124 119 w w' (linesL s) v := by
  refine (callsIn_wide (n := 20)).1 ?_
  refine callsIn_of_wp_marks Tryz.func38 rfl trivial ?_ rfl
  simp only [Tryz.ntmps38, List.size_toArray, List.length_cons, List.length_nil, Nat.reduceAdd, Nat.reduceSub, Array.replicate_succ, Array.replicate_zero, List.push_toArray, List.append_toArray, List.nil_append, List.cons_append]
  gi_wp2_with fail
  refine ⟨trivial, ?_⟩
  refine (callsIn_wide.2 (seq_call _ s)).mono ?_
  rintro e w6 ⟨rfl, hw6⟩
  have g0 : Bk w6 w.heap.size 109 #[.slice none 0 0] := by
    rw [hw6]
    exact ((((Bk.new w 109 _).alloc _).alloc _).alloc _).alloc _
  have g1 : Bk w6 (w.heap.size + 1) 3 #[.int .i64 0] := by
    rw [hw6]
    have := (((Bk.new (w.alloc (.cells #[.slice none 0 0] 109)) 3 #[.int .i64 0]).alloc (.cells #[.string ⟨s.toArray⟩] 9)).alloc (.cells #[.string ⟨#[10]⟩] 9)).alloc (.cells #[.int .i64 0] 3)
    simp only [World.size_alloc] at this
    exact this
  have g2 : Bk w6 (w.heap.size + 1 + 1) 9 #[.string ⟨s.toArray⟩] := by
    rw [hw6]
    have := ((Bk.new ((w.alloc (.cells #[.slice none 0 0] 109)).alloc (.cells #[.int .i64 0] 3)) 9 #[.string ⟨s.toArray⟩]).alloc (.cells #[.string ⟨#[10]⟩] 9)).alloc (.cells #[.int .i64 0] 3)
    simp only [World.size_alloc] at this
    exact this
  have g3 : Bk w6 (w.heap.size + 1 + 1 + 1) 9 #[.string ⟨#[10]⟩] := by
    rw [hw6]
    have := (Bk.new (((w.alloc (.cells #[.slice none 0 0] 109)).alloc (.cells #[.int .i64 0] 3)).alloc (.cells #[.string ⟨s.toArray⟩] 9)) 9 #[.string ⟨#[10]⟩]).alloc (.cells #[.int .i64 0] 3)
    simp only [World.size_alloc] at this
    exact this
  have g4 : Bk w6 (w.heap.size + 1 + 1 + 1 + 1) 3 #[.int .i64 0] := by
    rw [hw6]
    have := Bk.new ((((w.alloc (.cells #[.slice none 0 0] 109)).alloc (.cells #[.int .i64 0] 3)).alloc (.cells #[.string ⟨s.toArray⟩] 9)).alloc (.cells #[.string ⟨#[10]⟩] 9)) 3 #[.int .i64 0]
    simp only [World.size_alloc] at this
    exact this
  have hb6 : Below w.heap.size w w6 := by
    rw [hw6]
    exact (((((Below.refl _ w).alloc (Nat.le_refl _) _).alloc (by simp) _).alloc (by simp; omega) _).alloc (by simp; omega) _).alloc (by simp; omega) _
  have hs6 : w6.heap.size = w.heap.size + 5 := by rw [hw6]; simp
  simp only [World.size_alloc]
  have Hit := Lib.hid (seq_gives w6 (w.heap.size + 1 + 1) s hs g2 g3 g4)
  have hI0 : Hid (WI w [] w6) := ⟨g1, ⟨_, g2⟩, ⟨none, 0, [], g0, ⟨rfl, .inl ⟨rfl, rfl⟩⟩, RowsIn.nil _ _⟩, hb6, by omega⟩
  clear hw6 g0 g1 g2 g3 g4 hb6
  gi_wp2_with fail
  refine wpIn_range_allW (n := 20) (cs := w.heap.size + 1 + 1) (gf := 160) (lb := #[.pointer (some ⟨w.heap.size + 1 + 1 + 1, 0, none⟩), .pointer (some ⟨w.heap.size + 1 + 1, 0, none⟩), .pointer (some ⟨w.heap.size + 1 + 1 + 1 + 1, 0, none⟩)]) (by omega) rfl (enters_of Tryz.func160 (by kernel_rfl) rfl) (fun _ => rfl) Hit.out (Bx := fun _ => False) (fun _ _ h => h)
    (fun h k => h.trans k) (fun W l o o' h hc => KeepT.put W l o o' h hc) (fun xs W l o o' h _ _ => h) (WI w) (wi_own w _ (by omega)) (wi_store w) hI0.out
    (fun x => { tmps := #[.string ⟨s.toArray⟩, undef, .slice none 0 0, .pointer (some ⟨w.heap.size, 0, none⟩), .pointer (some ⟨w.heap.size + 1, 0, none⟩), .string ⟨x.1.toArray⟩, undef, .string ⟨s.toArray⟩, .func (.func 160) #[] #[.pointer (some ⟨w.heap.size + 1 + 1 + 1, 0, none⟩), .pointer (some ⟨w.heap.size + 1 + 1, 0, none⟩), .pointer (some ⟨w.heap.size + 1 + 1 + 1 + 1, 0, none⟩)], .string ⟨x.1.toArray⟩, undef, undef, undef, undef, undef, undef, undef, undef, undef, undef, undef, undef, undef], defers := [] }) ?assign ?body ?done
  case assign =>
    intro l x W K hK
    simp only [encsL]
    gi_wp2
    exact hK
  case body =>
    rintro l pre x W hI hlen
    have HI := Lib.hid hI
    obtain ⟨h1, h2, ⟨A0, c0, hs0, h3, h4, h5⟩, h6, h7⟩ := hI
    have k1 : W.cell? ⟨w.heap.size + 1, 0, none⟩ = some (.int .i64 pre.length) := h1.cell 0
    have f1 := h1.frozen 0
    have hsp : Calls Tryz.prog 71 #[.string ⟨x.1.toArray⟩, .int .i64 ((pre.length : Int) + 1)] (W.setCell ⟨w.heap.size + 1, 0, none⟩ (.int .i64 ((pre.length : Int) + 1))) (SplitPost (W.setCell ⟨w.heap.size + 1, 0, none⟩ (.int .i64 ((pre.length : Int) + 1))) x.1 (pre.length + 1)) := by
      have e : ((pre.length : Int) + 1) = ((pre.length + 1 : Nat) : Int) := by omega
      rw [e]
      exact split_ok _ x.1 (pre.length + 1) x.2
    have Hsp := Lib.hid hsp
    clear hsp
    gi_wp2_with fail
    refine ⟨trivial, rfl, ?_⟩
    refine (CallsIn.inRound l (callsIn_wide.2 Hsp.out)).mono ?_
    rintro e w2 ⟨v2, rfl, hown2, hb2⟩
    obtain ⟨A2, c2, rfl, -⟩ := Rd.of_own hown2
    by_cases hz : one x.1 = []
    · have Hp := Lib.hid (wi_none w W w2 pre x HI.out hz hb2)
      have hz0 : ¬ 0 < (one x.1).length := by simp [hz]
      clear hz hown2 hb2
      gi_wp2_with fail
      exact Hp.out
    · obtain ⟨A3, c3, w3, hrun3, hq2, hq3, hf3, hpost⟩ := wi_some w W w2 pre x A0 A2 c0 c2 hs0 (by omega) h1 h2 h3 h4 h5 h6 h7 hz hb2 hown2
      have Hp := Lib.hid hpost
      have hz0 : 0 < (one x.1).length := List.length_pos_iff.2 hz
      clear hz hown2 hb2 hpost
      gi_wp2_with fail
      exact Hp.out
  case done =>
    rintro D xs W hD hS hI hK
    obtain ⟨h1, h2, ⟨A0, c0, hs0, h3, h4, h5⟩, h6, h7⟩ := hI
    have k0 : W.cell? ⟨w.heap.size, 0, none⟩ = some (.slice A0 hs0.length c0) := h3.cell 0
    have HS := Lib.hid hS
    clear hS
    gi_wp2_with fail
    refine ⟨by simp, .inl ⟨_, _, rfl, run_takeDeferred hK, ?_⟩⟩
    have hl : hs0.length = (linesL s).length := by rw [h5.1, linesL, HS.out]
    refine ⟨.slice A0 hs0.length c0, by simp [results, Tryz.results38, go_sem], _, rfl, A0, c0, hs0, by rw [hl], ?_, ?_, ?_⟩
    · rw [← hl]
      exact own_rdT (ownsRow_putObj h4 (.deferred none) hK rfl)
    · rw [linesL, ← HS.out]
      exact h5.kept fun _ _ _ hr => hr.other (grownBy_putObj' W D _) (fun q hq => by cases hq; exact ⟨_, hK, rfl⟩)
    · exact h6.trans (belowK_b (w := w) (Nat.le_refl _) W D _ _ (by omega) hK rfl rfl)
end Go.Proofs.YtkijckccfookeaaGreatDoor
