/- A range over a function whose body always goes on, and leans on what it is handed; outline.Contours' function so. -/
import Derived.Test.YtkijckccfookeaaDoorCon
namespace Go.Proofs.YtkijckccfookeaaDoor
open Go.RowKit Go.Shelf
attribute [local go_sem] Oper.semAt_some

theorem RoundIn.wide {P : Program} {l m k l2 : Nat} {f : FuncId} {tmps : Array Value} {assign body : Code} {w : World} {R : Ending → World → Prop} (h : RoundIn Fence.wide m P l f tmps assign body w R) : RoundIn (Fence.wide.inRound l2) k P l f tmps assign body w R :=
  ⟨h.1, fun c cs _ => h.2 c cs (fun _ hd => by cases hd)⟩
/-- what a round does: it goes on, J has one more, R says what it changed, and nothing that is no cells has changed -/
def Going {α : Type} (J : List α → World → Prop) (R : World → World → Prop) (xs : List α) (W : World) (e : Ending) (W' : World) : Prop :=
  e = .returned (.bool true) ∧ J xs W' ∧ R W W' ∧ KeepsOthers W W'
/-- an iterator: whatever J abides its steps, it hands all on, each as V says -/
def Gives {α : Type} (P : Program) (gf : Nat) (lb : Array Value) (encs : α → Array Value) (V : List α → α → World → Prop) (R : World → World → Prop) (S : List α → Prop) (d : Nat) (w : World) : Prop :=
  ∀ (l n : Nat) (J : List α → World → Prop) (W : World), d ≤ n → l < W.heap.size → Below w.heap.size w W → OwnFrom W.heap.size J →
    (∀ pre x W1, J pre W1 → V pre x W1 → YieldAt Fence.wide 0 P l (encs x) W1 (Going J R (pre ++ [x]) W1)) → J [] W →
    CallsIn Fence.wide n P gf (#[.func (.yield l) #[] #[]] ++ lb) W fun e W' => (∃ v, e = .returned v) ∧ ∃ xs, S xs ∧ J xs W'
def GoPost {α : Type} (I : List α → World → Prop) (R : World → World → Prop) (xs : List α) (W : World) : Exit → Act → World → Prop
  | .normal, _, W' => I xs W' ∧ R W W' ∧ KeepsOthers W W'
  | _, _, _ => False

set_option maxHeartbeats 1000000 in
theorem wpIn_range_give {P : Program} {α : Type} {g : Operand} {ps : Array Tmp} {assign body : Code} {Q : Exit → Act → World → Prop} {a : Act} {w : World} {n gf : Nat} {lb : Array Value}
    {d : Nat} (hn : d + 1 ≤ n) (hg : a.eval g = .func (.func gf) #[] lb) (eg : ∀ args w, (callFunc gf args).run P w = .ok (.enter gf args) w)
    {encs : α → Array Value} (hps : ∀ x, (encs x).size = ps.size) {V : List α → α → World → Prop} {R : World → World → Prop} {S : List α → Prop} (hit : Gives P gf lb encs V R S d w)
    (hRt : ∀ {A B C : World}, R A B → R B C → R A C) (hRp : ∀ (W : World) (l : Nat) (o o' : Obj), W.heap[l]? = some o → o.isCells = false → R W (W.putObj l o'))
    (hVp : ∀ (xs : List α) (x : α) (W : World) (l : Nat) (o o' : Obj), V xs x W → W.heap[l]? = some o → o.isCells = false → V xs x (W.putObj l o'))
    (I : List α → World → Prop) (hI : OwnFrom w.heap.size I) (h0 : I [] w) (a1 : α → Act)
    (hassign : ∀ (l : Nat) (x : α) (W : World) (K : Act → World → Prop), K (a1 x) W → assign.wpIn (Fence.wide.inRound l) 0 P (Exit.then K (fun _ _ _ => False)) { tmps := (ps.zip (encs x)).foldl (fun t (p, v) => t.setIfInBounds p v) a.tmps, defers := [] } W)
    (hbody : ∀ (l : Nat) (pre : List α) (x : α) (W : World), I pre W → V pre x W → body.wpIn (Fence.wide.inRound l) 0 P (GoPost I R (pre ++ [x]) W) (a1 x) W)
    (hdone : ∀ (D : Nat) (xs : List α) (W : World), w.heap.size ≤ D → S xs → I xs W → W.heap[D]? = some (.deferred (some [])) → Q .normal { a with defers := { target := .collected D, args := #[] } :: a.defers } W) :
    (Code.rangeFunc g ps assign body).wpIn Fence.wide n P Q a w := by
  refine wpIn_rangeFunc ?_
  intro fn hfn
  obtain ⟨rc, hrc⟩ : ∃ rc : LoopState → Loop, rc = fun st => { state := st, pending := none, fn, tmps := a.tmps, params := ps, assign, body, defers := w.heap.size } := ⟨_, rfl⟩
  obtain ⟨V0, hV⟩ : ∃ V0, (w.alloc (.deferred (some []))).alloc (.loop (rc .ready)) = V0 := ⟨_, rfl⟩
  have hVs : V0.heap.size = w.heap.size + 2 := by rw [← hV]; simp
  have hVl : V0.heap[w.heap.size + 1]? = some (.loop (rc .ready)) := by
    have h := World.alloc_heap_new (w.alloc (.deferred (some []))) (.loop (rc .ready))
    rw [World.size_alloc] at h
    rw [← hV]
    exact h
  have hVd : V0.heap[w.heap.size]? = some (.deferred (some [])) := by
    rw [← hV]
    exact (Below.heap_alloc _ _ _ (by simp)).trans (World.alloc_heap_new w _)
  have hVb : Below w.heap.size w V0 := by rw [← hV]; exact ((Below.refl _ w).alloc (Nat.le_refl _) _).alloc (by simp) _
  have hVi : I [] V0 := by rw [← hV]; exact hI.alloc _ (hI.alloc _ h0)
  refine ⟨w.heap.size + 1, [{ target := .collected w.heap.size, args := #[] }], V0, { target := .fn (.func gf) lb, args := #[.func (.yield (w.heap.size + 1)) #[] #[]] }, V0, gf, #[.func (.yield (w.heap.size + 1)) #[] #[]] ++ lb, V0, ?_, ?_, ?_, ?_, fun _ => by omega, ?_⟩
  · rw [← hV, hrc]
    exact run_enterLoop_outer _ _ _ _ _
  · simp only [resolve, hg]
    simp [go_sem]
  · intro f' _
    trivial
  · simp [invoke, go_sem, eg]
  · have hJo : OwnFrom V0.heap.size (fun pre W => I pre W ∧ W.heap[w.heap.size + 1]? = some (.loop (rc .ready)) ∧ W.heap[w.heap.size]? = some (.deferred (some []))) := by
      intro s A B row hs hgr hr
      have hlow : ∀ k, k < w.heap.size + 2 → ∀ o, A.heap[k]? = some o → B.heap[k]? = some o := fun k hk o ho => (hgr.block k (Array.getElem?_eq_some_iff.1 ho).1 (fun e => by have := (hr k e.symm).1; omega)).trans ho
      exact ⟨hI s A B row hs.1 hgr (fun r e => ⟨by have := (hr r e).1; omega, (hr r e).2⟩), hlow _ (by omega) _ hs.2.1, hlow _ (by omega) _ hs.2.2⟩
    refine (hit (w.heap.size + 1) (n - 1) _ V0 (by omega) (by omega) hVb hJo ?_ ⟨hVi, hVl, hVd⟩).mono ?_
    · rintro pre x W ⟨hi, hl, hd⟩ hvx
      have hlt := (Array.getElem?_eq_some_iff.1 hl).1
      have hy := run_yield (P := P) (args := encs x) hl (by rw [hrc]; exact hps x)
      rw [hrc] at hy
      refine ⟨fn, _, assign, body, hy, roundIn_of_wpIn hfn (hassign _ x W _ ⟨_, run_beginRound hl (by rw [hrc]), ?_⟩)⟩
      have hl2 : (W.putObj (w.heap.size + 1) (.loop { rc .ready with state := .busy })).heap[w.heap.size + 1]? = some (.loop { rc .ready with state := .busy }) := World.putObj_heap_same hlt
      have hd2 : (W.putObj (w.heap.size + 1) (.loop { rc .ready with state := .busy })).heap[w.heap.size]? = some (.deferred (some [])) := (World.putObj_heap_other (by omega)).trans hd
      have hr2 : R W (W.putObj (w.heap.size + 1) (.loop { rc .ready with state := .busy })) := hRp _ _ _ _ hl rfl
      refine wpIn_mono (hbody _ pre x _ (hI.putObj _ hi (by omega) hl rfl) (hVp _ _ _ _ _ _ hvx hl rfl)) ?_
      rintro e a3 W3 hp
      cases e with
      | normal =>
        obtain ⟨hi3, hr3, hk3⟩ := hp
        have hl3 := hk3.same _ _ hl2 rfl
        have hd3 := hk3.same _ _ hd2 rfl
        have hrun := run_endRound (P := P) none hl3
        have hsame : ({ { rc .ready with state := .busy } with state := if (none : Option Code).isNone then LoopState.ready else .done, pending := none } : Loop) = rc .ready := by rw [hrc]; rfl
        rw [hsame] at hrun
        have hl4 : (W3.putObj (w.heap.size + 1) (.loop (rc .ready))).heap[w.heap.size + 1]? = some (.loop (rc .ready)) := World.putObj_heap_same (Array.getElem?_eq_some_iff.1 hl3).1
        refine ⟨_, _, hrun, rfl, ⟨hI.putObj _ hi3 (by omega) hl3 rfl, hl4, (World.putObj_heap_other (by omega)).trans hd3⟩, hRt (hRt hr2 hr3) (hRp _ _ _ _ hl3 rfl), ?_, fun j o hj ho => ?_⟩
        · have h1 := hk3.size
          simp at h1 ⊢
          exact h1
        · by_cases hjl : j = w.heap.size + 1
          · subst hjl
            rw [hl] at hj
            cases hj
            exact hl4
          · exact (World.putObj_heap_other hjl).trans (hk3.same j o ((World.putObj_heap_other hjl).trans hj) ho)
      | ret => exact hp.elim
      | exit id => exact hp.elim
      | goto t => exact hp.elim
      | panic ch => exact hp.elim
      | outgrown => exact hp.elim
    · rintro e W2 ⟨⟨v, rfl⟩, xs, hS, hi, hl, hd⟩
      have hrun := run_endLoop (P := P) hl (by rw [hrc]; simp)
      have hpn : (rc .ready).pending = none := by rw [hrc]
      rw [hpn] at hrun
      refine ⟨none, _, hrun, ?_⟩
      exact hdone _ xs _ (Nat.le_refl _) hS (hI.putObj _ hi (by omega) hl rfl) ((World.putObj_heap_other (by omega)).trans hd)

/-- all cells but rows of bytes and printers are as they were -/
structure KC (w w' : World) : Prop where
  same : ∀ (b : Nat) (cs : Array Value) (t : TypeId) (fz : Nat × Nat), w.heap[b]? = some (.cells cs t fz) → t ≠ 5 → t ≠ 96 → w'.heap[b]? = some (.cells cs t fz)
  size : w.heap.size ≤ w'.heap.size
theorem KC.trans {a b c : World} (h : KC a b) (k : KC b c) : KC a c := ⟨fun x cs t fz hx h1 h2 => k.same x cs t fz (h.same x cs t fz hx h1 h2) h1 h2, Nat.le_trans h.size k.size⟩
theorem KC.put (W : World) (l : Nat) (o o' : Obj) (h : W.heap[l]? = some o) (hc : o.isCells = false) : KC W (W.putObj l o') := by
  refine ⟨fun b cs t fz hb _ _ => ?_, by simp⟩
  have hne : b ≠ l := by
    rintro rfl
    rw [h] at hb
    cases hb
    cases hc
  exact (World.putObj_heap_other hne).trans hb
theorem KP.kc {w w' : World} (h : KP w w') : KC w w' := ⟨fun b cs t fz hb h1 h2 => h.same b _ hb ⟨h1, h2⟩, h.size⟩
theorem KP.others {w w' : World} (h : KP w w') : KeepsOthers w w' := ⟨h.size, fun k o hk hc => h.same k o hk (by cases o <;> first | trivial | cases hc)⟩
theorem KC.bk {w w' : World} (h : KC w w') {g : Nat} {t : TypeId} {cs : Array Value} (hb : Bk w g t cs) (h1 : t ≠ 5) (h2 : t ≠ 96) : Bk w' g t cs := h.same g cs t (0, 0) hb h1 h2

abbrev Pc4 := Nat × Nat × Nat × Nat
def encsC (x : Pc4) : Array Value := #[.int .i64 (x.1 : Int), .slice (some ⟨x.2.2.2, x.2.1 * 3, none⟩) (x.2.2.1 + 1 - x.2.1) (x.2.2.1 + 1 - x.2.1)]
def atG (g : Nat) (l : List (Nat × Nat × Nat)) : List Pc4 := l.map (fun p => (p.1, p.2.1, p.2.2, g))
/-- what is handed on: the next piece, of points that lie as they did -/
def VC (n : Nat) (cs : List Value) (es : List Int) (pre : List Pc4) (x : Pc4) (W : World) : Prop :=
  pre ++ [x] <+: atG x.2.2.2 (pcsF n 0 0 es) ∧ x.2.1 ≤ x.2.2.1 ∧ x.2.2.1 < n ∧ RdT W 146 (some ⟨x.2.2.2, 0, none⟩) n 3 cs
def SC (n : Nat) (es : List Int) (xs : List Pc4) : Prop := ∃ g, xs = atG g (pcsF n 0 0 es)
theorem VC.putObj (n : Nat) (cs : List Value) (es : List Int) (xs : List Pc4) (x : Pc4) (W : World) (l : Nat) (o o' : Obj) (h : VC n cs es xs x W) (hl : W.heap[l]? = some o) (hc : o.isCells = false) : VC n cs es xs x (W.putObj l o') :=
  ⟨h.1, h.2.1, h.2.2.1, h.2.2.2.other (grownBy_putObj' W l o') (fun r e => by cases e; exact ⟨o, hl, hc⟩)⟩
theorem RoundIn.any {P : Program} {l m k : Nat} {f : FuncId} {tmps : Array Value} {assign body : Code} {w : World} {R : Ending → World → Prop} (h : RoundIn Fence.wide m P l f tmps assign body w R) : RoundIn Fence.wide k P l f tmps assign body w R :=
  ⟨h.1, fun c cs _ => h.2 c cs (fun _ hd => by cases hd)⟩
abbrev Pc3 := Nat × Nat × Nat
def encsP (b o : Nat) (x : Pc3) : Array Value := #[.int .i64 (x.1 : Int), .slice (some ⟨b, o + x.2.1 * 3, none⟩) (x.2.2 + 1 - x.2.1) (x.2.2 + 1 - x.2.1)]
def VP (len : Nat) (es : List Int) (pre : List Pc3) (x : Pc3) (_ : World) : Prop := pre ++ [x] <+: pcsF len 0 0 es ∧ x.2.1 ≤ x.2.2 ∧ x.2.2 < len
def SP (len : Nat) (es : List Int) (xs : List Pc3) : Prop := xs = pcsF len 0 0 es
theorem KC.rdT {w w' : World} (h : KC w w') {t : TypeId} {A : Option Addr} {n size : Nat} {cs : List Value} (hr : RdT w t A n size cs) (h1 : t ≠ 5) (h2 : t ≠ 96) : RdT w' t A n size cs :=
  ⟨hr.1, fun hn => by
    obtain ⟨b, o, cur, e, hb, hc⟩ := hr.2 hn
    exact ⟨b, o, cur, e, h.bk hb h1 h2, hc⟩⟩
theorem KC.refl (w : World) : KC w w := (KP.refl w).kc
theorem KC.below {w w' : World} (h : Below w.heap.size w w') : KC w w' := (KP.below h).kc
set_option maxRecDepth 100000 in
set_option maxHeartbeats 2000000 in
theorem pieces_gives (w : World) (be br b o len cap m d : Nat) (A E : Option Addr) (es : List Int) (hbe : Bk w be 22 #[.slice E m d]) (hbr : Bk w br 49 #[.slice A len cap]) (hE : RdT w 3 E m 1 (cIs es))
    (hAb : 0 < len → A = some ⟨b, o, none⟩) (hcap : len ≤ cap) (hlen : cap ≤ 9223372036854775807) (hm : m ≤ 9223372036854775807) :
    Gives Tryd.prog 92 #[.pointer (some ⟨be, 0, none⟩), .pointer (some ⟨br, 0, none⟩)] (encsP b o) (VP len es) KC (SP len es) 8 w := by
  intro l n J W hn _ hW _ hY h0
  have hcW := KC.below hW
  have hbe1 := hcW.bk hbe (by decide) (by decide)
  have hbr1 := hcW.bk hbr (by decide) (by decide)
  have hE1 := hcW.rdT hE (by decide) (by decide)
  have hel := hE1.rd.lenI
  have Hel := Lib.hid hel
  clear hel hbe hbr hE hW hcW
  have HY := Lib.hid hY
  clear hY
  have c0 : W.cell? ⟨be, 0, none⟩ = some (.slice E m d) := hbe1.cell 0
  refine callsIn_of_wp Tryd.func92 rfl trivial ?_ rfl
  simp only [Tryd.ntmps92, List.size_toArray, List.length_cons, List.length_nil, Nat.reduceAdd, Nat.reduceSub, Array.replicate_succ, Array.replicate_zero, List.push_toArray, List.append_toArray, List.nil_append, List.cons_append]
  gi_wp2
  gi_loopw [4, 9] (fun f i wr => ∃ (k q : Nat) (pre : List Pc3), k ≤ m ∧ q ≤ len ∧ i = .int .i64 k ∧ f = .int .i64 q ∧ J pre wr ∧ KC W wr ∧ Hid (pre ++ pcsF len k q (es.drop k) = pcsF len 0 0 es))
    (fun _ i _ => m - (intOf i).toNat)
  case atStart => exact ⟨0, 0, [], by omega, by omega, rfl, rfl, h0, KC.refl _, rfl⟩
  case round =>
    obtain ⟨k, q, pre, hk, hq, rfl, rfl, hJs, hnx, hpre⟩ := hrel
    have hbe2 : wr.cell? ⟨be, 0, none⟩ = some (.slice E m d) := (hnx.bk hbe1 (by decide) (by decide)).cell 0
    have hbr2 : wr.cell? ⟨br, 0, none⟩ = some (.slice A len cap) := (hnx.bk hbr1 (by decide) (by decide)).cell 0
    clear c0
    by_cases hlt : k < m
    · obtain ⟨be0, bo, e, rfl, -, he, hce⟩ := (hnx.rdT hE1 (by decide) (by decide)).rd.atI hlt
      have hdrop : Hid (es.drop k = e :: es.drop (k + 1)) := by
        obtain ⟨h1, h2⟩ := List.getElem?_eq_some_iff.1 he.out
        have := List.drop_eq_getElem_cons h1
        rw [h2] at this
        exact this
      by_cases hlow : e < (q : Int)
      · have hd : decide (e < (q : Int)) = true := by simp [hlow]
        gi_wp2
        refine bodyPost_ret (results_none rfl _ _ _) rfl ?_
        refine ⟨⟨_, rfl⟩, pre, ?_, hJs⟩
        have := hpre.out
        rw [hdrop.out, pcsF, if_neg (by omega)] at this
        show _ = _
        simpa using this
      · have hd : decide (e < (q : Int)) = false := by simp; omega
        by_cases hhi : (len : Int) ≤ e
        · gi_wp2
          refine bodyPost_ret (results_none rfl _ _ _) rfl ?_
          refine ⟨⟨_, rfl⟩, pre, ?_, hJs⟩
          have := hpre.out
          rw [hdrop.out, pcsF, if_neg (by omega)] at this
          show _ = _
          simpa using this
        · obtain ⟨en, rfl⟩ : ∃ en : Nat, e = en := ⟨e.toNat, by omega⟩
          have hqe : q ≤ en := by omega
          have hel : en < len := by omega
          obtain rfl := hAb (by omega)
          have hnext : Hid ((pre ++ [((k, q, en) : Pc3)]) ++ pcsF len (k + 1) (en + 1) (es.drop (k + 1)) = pcsF len 0 0 es) := by
            have := hpre.out
            rw [hdrop.out, pcsF, if_pos (by omega)] at this
            show _ = _
            simpa using this
          obtain ⟨fn, tmps, assign, body, hy, hR⟩ := HY.out pre (k, q, en) wr hJs ⟨⟨_, hnext.out⟩, hqe, hel⟩
          simp only [encsP] at hy
          clear hlow hhi
          gi_wp2
          refine ⟨fun _ => Nat.le_trans (by decide) hn, ?_⟩
          refine (RoundIn.any hR).mono ?_
          rintro e W3 ⟨rfl, hJ3, hk3, -⟩
          gi_wp2
          go_roundw
          case rel => exact ⟨k + 1, en + 1, _, by omega, by omega, by go_num, by go_num, hJ3, hnx.trans hk3, hnext⟩
          case measure => simp [intOf]; omega
    · gi_wp2
      go_end0
      refine ⟨⟨_, rfl⟩, pre, ?_, hJs⟩
      have := hpre.out
      rw [List.drop_eq_nil_of_le (by have := Hel.out; omega)] at this
      show _ = _
      simpa [pcsF] using this
end Go.Proofs.YtkijckccfookeaaDoor
