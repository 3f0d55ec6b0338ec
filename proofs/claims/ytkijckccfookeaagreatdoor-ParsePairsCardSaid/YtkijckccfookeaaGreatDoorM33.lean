/- Plain Lean: an error is never 0; words are no longer than the source. -/
import Derived.Test.YtkijckccfookeaaGreatDoorM04
import Derived.Test.YtkijckccfookeaaGreatDoorM05
import Derived.Lib.Bytealg
import Derived.Lib.IndexLaws
import Derived.Outline
import Derived.RangeFuncNested
import Derived.RangeFuncBound
import Derived.RangeFuncCalls
import Derived.RangeFuncBox
import Derived.Shelf.Abstract
namespace Go.Proofs.YtkijckccfookeaaGreatDoor
open Go.RowKit

def Nz {α : Type} (a : Except Int α) : Prop := ∀ e, a = .error e → e ≠ 0
theorem Nz.err {α : Type} {e : Int} (h : e ≠ 0) : Nz (.error e : Except Int α) := fun x hx => by injection hx with hx; rw [← hx]; exact h
theorem Nz.ok {α : Type} {a : α} : Nz (.ok a : Except Int α) := fun x hx => by cases hx
theorem nz_fin (e : Int) (s : PS) : Nz (fin e s) := by
  unfold fin
  split
  · exact Nz.ok
  · rename_i h; exact Nz.err h
theorem nz_one (gl : Gl) (cls : List (B × List Int)) (t : B) : Nz (setOne gl cls t) := by
  unfold setOne
  split <;> split <;> first | exact Nz.ok | exact Nz.err (by decide)
theorem nz_go (gl : Gl) (cls : List (B × List Int)) (l : List B) (acc : List Int) : Nz (setGo gl cls acc l) := by
  induction l generalizing acc with
  | nil => exact Nz.ok
  | cons t r ih =>
    rw [setGo]
    have h := nz_one gl cls t
    cases ho : setOne gl cls t with
    | error e => exact Nz.err (h e ho)
    | ok c =>
      simp only
      split
      · exact Nz.err (by decide)
      · exact ih _
theorem nz_rows (gl : Gl) (cls : List (B × List Int)) (l : List (List B)) : Nz (rowsGo gl cls l) := by
  induction l with
  | nil => exact Nz.ok
  | cons t r ih =>
    rw [rowsGo]
    have h := nz_go gl cls t []
    cases ho : setGo gl cls [] t with
    | error e => exact Nz.err (h e ho)
    | ok c =>
      simp only
      cases hr : rowsGo gl cls r with
      | error e => exact Nz.err (ih e hr)
      | ok x => exact Nz.ok
theorem nz_sort (l nm : List Int) : Nz (sortOut l nm) := by
  unfold sortOut
  split
  · exact Nz.err (by decide)
  · split
    · exact Nz.err (by decide)
    · exact Nz.ok
theorem nz_if {α : Type} {c : Prop} [Decidable c] {x y : Except Int α} (hx : Nz x) (hy : Nz y) : Nz (if c then x else y) := by
  split
  · exact hx
  · exact hy
theorem nz_ite {α : Type} {e : Int} {x : Except Int α} (hx : Nz x) : Nz (if e ≠ 0 then .error e else x) := by
  by_cases h : e ≠ 0
  · rw [if_pos h]; exact Nz.err h
  · rw [if_neg h]; exact hx
theorem nz_map {α β : Type} {a : Except Int α} {g : α → β} (h : Nz a) : Nz (match a with | .error e => (.error e : Except Int β) | .ok o => .ok (g o)) := by
  cases a with
  | error e => exact Nz.err (h e rfl)
  | ok o => exact Nz.ok
theorem nz_bind {α β : Type} {a : Except Int α} {g : α → Except Int β} (h : Nz a) (hg : ∀ o, Nz (g o)) : Nz (match a with | .error e => (.error e : Except Int β) | .ok o => g o) := by
  cases a with
  | error e => exact Nz.err (h e rfl)
  | ok o => exact hg o
theorem n22 {α : Type} : Nz (.error 22 : Except Int α) := Nz.err (by decide)
theorem n24 {α : Type} : Nz (.error 24 : Except Int α) := Nz.err (by decide)
theorem nz_rule (gl : Gl) (s : PS) (l : List B) : Nz (rRule gl s l) := by
  unfold rRule
  split
  · exact n22
  · split
    · split
      · refine nz_if n22 (nz_if n22 ?_)
        split
        · rename_i h; exact Nz.err (nz_rows _ _ _ _ h)
        · split
          · rename_i h; exact Nz.err (nz_rows _ _ _ _ h)
          · split
            · rename_i h; exact Nz.err (nz_rows _ _ _ _ h)
            · dsimp only
              refine nz_ite (nz_if ?_ Nz.ok)
              split
              · rename_i h; exact Nz.err (nz_sort _ _ _ h)
              · exact Nz.ok
      · exact n22
    · exact n22
theorem nz_unit (s : PS) (l : List B) : Nz (rUnit s l) := by
  unfold rUnit
  split
  · exact nz_ite (nz_if n24 Nz.ok)
  · exact n22
theorem nz_class (gl : Gl) (s : PS) (l : List B) : Nz (rClass gl s l) := by
  unfold rClass
  split
  · exact n22
  · split
    · refine nz_ite ?_
      split
      · rename_i h; exact Nz.err (nz_go _ _ _ _ _ h)
      · exact nz_if n24 Nz.ok
    · exact n22
theorem nz_glyph (gl : Gl) (s : PS) (l : List B) : Nz (rGlyph gl s l) := by
  unfold rGlyph
  split
  · exact nz_if (nz_ite (nz_if n24 Nz.ok)) n22
  · exact n22
theorem nz_stmt (gl : Gl) (s : PS) (l : List B) : Nz (stmt gl s l) := by
  cases l with
  | nil => exact n22
  | cons w r =>
    unfold stmt
    refine nz_if (nz_unit _ _) (nz_if ?_ (nz_if ?_ (nz_if (nz_fin _ _) (nz_if ?_ (nz_if (nz_class _ _ _) (nz_if (nz_glyph _ _ _) (nz_if ?_ (nz_if ?_ (nz_if ?_ (nz_if ?_ (nz_if ?_ (nz_if ?_ (nz_if ?_ (nz_if (nz_rule _ _ _) (nz_if ?_ n22)))))))))))))))
    · unfold rAxis; split <;> first | exact nz_fin _ _ | exact n22
    · exact nz_if n22 (nz_fin _ _)
    · exact nz_if n22 (nz_fin _ _)
    · exact nz_if n22 (nz_if n22 (nz_fin _ _))
    · refine nz_if n22 ?_; split <;> first | exact nz_fin _ _ | exact n22
    · refine nz_if n22 ?_; split <;> first | exact nz_if n22 (nz_fin _ _) | exact n22
    · refine nz_if n22 ?_; split <;> first | exact nz_fin _ _ | exact n22
    · exact nz_if n22 (nz_if n22 (nz_fin _ _))
    · unfold rChar; split <;> first | exact nz_fin _ _ | exact n22
    · unfold rLookup; split <;> first | exact nz_if (nz_if n22 Nz.ok) n22 | exact n22
    · unfold rFeature; split <;> first | exact nz_fin _ _ | exact n22
/-- words are no longer than their line -/
theorem run_sum (l : B) (σ : St) : (((l.foldl step σ).told).map (fun x => x.2.length)).sum + (l.foldl step σ).cur.length ≤ (σ.told.map (fun x => x.2.length)).sum + σ.cur.length + l.length := by
  induction l generalizing σ with
  | nil => simp
  | cons c r ih =>
    rw [List.foldl_cons]
    have h := ih (step σ c)
    have h2 : ((step σ c).told.map (fun x => x.2.length)).sum + (step σ c).cur.length ≤ (σ.told.map (fun x => x.2.length)).sum + σ.cur.length + 1 := by
      unfold step
      split
      · by_cases hc : σ.cur = [] <;> simp [St.all, St.pend, hc] <;> omega
      · simp only [List.length_append, List.length_cons, List.length_nil]; omega
    simp only [List.length_cons]
    omega
theorem one_word (l : B) : ∀ x ∈ one l, x.2.length ≤ l.length := by
  intro x hx
  have h := run_sum (code l) st0
  have hc : (code l).length ≤ l.length := (List.takeWhile_sublist _).length_le
  have hm : x.2.length ≤ ((run (code l)).told.map (fun x => x.2.length)).sum + (run (code l)).cur.length := by
    unfold one St.all St.pend at hx
    rw [List.mem_append] at hx
    rcases hx with hx | hx
    · have : ∀ (L : List (Nat × B)), x ∈ L → x.2.length ≤ (L.map (fun x => x.2.length)).sum := by
        intro L hL
        induction L with
        | nil => simp at hL
        | cons a r ih =>
          rw [List.mem_cons] at hL
          simp only [List.map_cons, List.sum_cons]
          rcases hL with rfl | hL
          · omega
          · have := ih hL; omega
      have := this _ hx
      omega
    · split at hx
      · simp at hx
      · simp only [List.mem_singleton] at hx
        subst hx
        simp only
        omega
  have h0 : (st0.told.map (fun x => x.2.length)).sum + st0.cur.length = 0 := rfl
  unfold run at hm
  omega
theorem pcs_each (s : B) : ∀ p ∈ pcs s, p.length ≤ s.length := by
  induction s with
  | nil => intro p hp; simp [pcs] at hp; subst hp; simp
  | cons c r ih =>
    intro p hp
    rw [pcs] at hp
    split at hp
    · rw [List.mem_cons] at hp
      rcases hp with rfl | hp
      · simp
      · have := ih p hp; simp only [List.length_cons]; omega
    · cases hq : pcs r with
      | nil => exact absurd hq (pcs_ne r)
      | cons q qs =>
        rw [hq] at hp ih
        simp only [List.mem_cons] at hp
        rcases hp with rfl | hp
        · have := ih q (by simp); simp only [List.length_cons]; omega
        · have := ih p (by simp [hp]); simp only [List.length_cons]; omega
theorem line_bounds (src : B) (hs : src.length ≤ 1000000) : ∀ r ∈ linesL src, r.length ≤ 1000000 ∧ ∀ x ∈ r, x.2.2.length ≤ 1000000 := by
  have key : ∀ (ps : List B) (n : Nat), (∀ p ∈ ps, p.length ≤ 1000000) → ∀ r ∈ linesFrom n ps, r.length ≤ 1000000 ∧ ∀ x ∈ r, x.2.2.length ≤ 1000000 := by
    intro ps
    induction ps with
    | nil => intro n _ r hr; simp [linesFrom] at hr
    | cons p ps ih =>
      intro n hp r hr
      rw [linesFrom, List.mem_append] at hr
      rcases hr with hr | hr
      · split at hr
        · simp at hr
        · simp only [List.mem_singleton] at hr
          subst hr
          have h1 := hp p (by simp)
          refine ⟨by rw [num_len]; exact Nat.le_trans (one_len p) h1, fun x hx => ?_⟩
          unfold num at hx
          rw [List.mem_map] at hx
          obtain ⟨y, hy, rfl⟩ := hx
          exact Nat.le_trans (one_word p y hy) h1
      · exact ih (n + 1) (fun q hq => hp q (by simp [hq])) r hr
  exact key _ _ fun p hp => Nat.le_trans (pcs_each src p hp) hs
end Go.Proofs.YtkijckccfookeaaGreatDoor
/- The contract of strings.Index at the separator of one byte 10. -/
namespace Go.Proofs.YtkijckccfookeaaGreatDoor
open Go.RowKit

theorem ix47 (s : ByteArray) (c : Int) (w : World) : (callFunc 206 #[.string s, .int .u8 c]).run Tryz.prog w = .ok (.value (.int .i64 (Lib.indexByte s.data.toList c.toNat.toUInt8))) w := by
  rw [run_callFunc_extern Tryz.func206 (by kernel_rfl) (by kernel_rfl) (by kernel_rfl) (e := Extern.BytealgIndexByte.indexByte) (by kernel_rfl), Lib.run_indexByteString]
  rfl
set_option maxRecDepth 100000 in
set_option maxHeartbeats 2000000 in
theorem wIndex_ok (w : World) (s : B) : Calls Tryz.prog 162 #[.string ⟨s.toArray⟩, .string ⟨#[10]⟩] w fun e w' => e = .returned (.int .i64 (Lib.indexByte s 10)) ∧ w = w' := by
  have ix := ix47
  go_enter Tryz.func162, Tryz.ntmps162
  go_wp2
  · have h : ([10] == s) = true := by assumption
    have hs : [10] = s := by simpa using h
    go_ret
    refine ⟨?_, rfl⟩
    rw [← hs]
    rfl
  · go_ret
    exact ⟨rfl, rfl⟩
end Go.Proofs.YtkijckccfookeaaGreatDoor
/- A range over a function that keeps a state of its own in a captured cell: the caller's word must abide a store into that cell. -/
namespace Go.Proofs.YtkijckccfookeaaGreatDoor
open Go.RowKit Go.Shelf

theorem RoundIn.wideW {P : Program} {l m k l2 : Nat} {f : FuncId} {tmps : Array Value} {assign body : Code} {w : World} {R : Ending → World → Prop} (h : RoundIn Fence.wide m P l f tmps assign body w R) : RoundIn (Fence.wide.inRound l2) k P l f tmps assign body w R :=
  ⟨h.1, fun c cs _ => h.2 c cs (fun _ hd => by cases hd)⟩

/-- what a round does: it goes on, J has one more, R says what it changed, and nothing that is no cells has changed; or it stops, for what came is as Bx says, and of what is no cells only the loop's own record l has changed -/
def GoingW {α : Type} (J : List α → World → Prop) (Bx : List α → Prop) (R : World → World → Prop) (l : Nat) (xs : List α) (W : World) (e : Ending) (W' : World) : Prop :=
  (e = .returned (.bool true) ∧ J xs W' ∧ R W W' ∧ KeepsOthers W W') ∨
  (e = .returned (.bool false) ∧ Bx xs ∧ W.heap.size ≤ W'.heap.size ∧ ∀ (j : Nat) (o : Obj), j ≠ l → W.heap[j]? = some o → o.isCells = false → W'.heap[j]? = some o)
/-- an iterator: whatever J abides its steps, it hands all on, and says S of what came and of the world behind -/
def GivesW {α : Type} (P : Program) (cs gf : Nat) (lb : Array Value) (encs : α → Array Value) (R : World → World → Prop) (S : List α → World → Prop) (Sp : List α → Prop) (N : Nat) (w : World) : Prop :=
  ∀ (l n : Nat) (J : List α → World → Prop) (Bx : List α → Prop) (W : World), 8 ≤ n → l < W.heap.size → Below w.heap.size w W → OwnFrom W.heap.size J → (∀ pre W1 v, J pre W1 → J pre (W1.setCell ⟨cs, 0, none⟩ v)) →
    (∀ pre x W1, J pre W1 → pre.length < N → YieldAt Fence.wide 0 P l (encs x) W1 (GoingW J Bx R l (pre ++ [x]) W1)) → J [] W →
    CallsIn Fence.wide n P gf (#[.func (.yield l) #[] #[]] ++ lb) W fun e W' => (∃ v, e = .returned v) ∧ ((∃ xs, S xs W' ∧ J xs W') ∨ (∃ pre, Sp pre ∧ Bx pre))
def GoPostW {α : Type} (I : List α → World → Prop) (Bx : List α → Prop) (R : World → World → Prop) (xs : List α) (W : World) : Exit → Act → World → Prop
  | .normal, _, W' => I xs W' ∧ R W W' ∧ KeepsOthers W W'
  | .ret, _, W' => Bx xs ∧ KeepsOthers W W'
  | _, _, _ => False

set_option maxHeartbeats 1000000 in
theorem wpIn_range_allW {P : Program} {α : Type} {g : Operand} {ps : Array Tmp} {assign body : Code} {Q : Exit → Act → World → Prop} {a : Act} {w : World} {n cs gf : Nat} {lb : Array Value}
    (hn : 9 ≤ n) (hg : a.eval g = .func (.func gf) #[] lb) (eg : ∀ args w, (callFunc gf args).run P w = .ok (.enter gf args) w)
    {encs : α → Array Value} (hps : ∀ x, (encs x).size = ps.size) {R : World → World → Prop} {S : List α → World → Prop} {Sp Bx : List α → Prop} {N : Nat} (hit : GivesW P cs gf lb encs R S Sp N w) (hno : ∀ pre, Sp pre → Bx pre → False)
    (hRt : ∀ {A B C : World}, R A B → R B C → R A C) (hRp : ∀ (W : World) (l : Nat) (o o' : Obj), W.heap[l]? = some o → o.isCells = false → R W (W.putObj l o'))
    (hSp : ∀ (xs : List α) (W : World) (l : Nat) (o o' : Obj), S xs W → W.heap[l]? = some o → o.isCells = false → S xs (W.putObj l o'))
    (I : List α → World → Prop) (hI : OwnFrom w.heap.size I) (hIc : ∀ pre W v, I pre W → I pre (W.setCell ⟨cs, 0, none⟩ v)) (h0 : I [] w) (a1 : α → Act)
    (hassign : ∀ (l : Nat) (x : α) (W : World) (K : Act → World → Prop), K (a1 x) W → assign.wpIn (Fence.wide.inRound l) 0 P (Exit.then K (fun _ _ _ => False)) { tmps := (ps.zip (encs x)).foldl (fun t (p, v) => t.setIfInBounds p v) a.tmps, defers := [] } W)
    (hbody : ∀ (l : Nat) (pre : List α) (x : α) (W : World), I pre W → pre.length < N → body.wpIn (Fence.wide.inRound l) 0 P (GoPostW I Bx R (pre ++ [x]) W) (a1 x) W)
    (hdone : ∀ (D : Nat) (xs : List α) (W : World), w.heap.size ≤ D → S xs W → I xs W → W.heap[D]? = some (.deferred (some [])) → Q .normal { a with defers := { target := .collected D, args := #[] } :: a.defers } W) :
    (Code.rangeFunc g ps assign body).wpIn Fence.wide n P Q a w := by
  refine wpIn_rangeFunc ?_
  intro fn hfn
  obtain ⟨rc, hrc⟩ : ∃ rc : LoopState → Loop, rc = fun st => { state := st, pending := none, fn, tmps := a.tmps, params := ps, assign, body, defers := w.heap.size } := ⟨_, rfl⟩
  obtain ⟨V, hV⟩ : ∃ V, (w.alloc (.deferred (some []))).alloc (.loop (rc .ready)) = V := ⟨_, rfl⟩
  have hVs : V.heap.size = w.heap.size + 2 := by rw [← hV]; simp
  have hVl : V.heap[w.heap.size + 1]? = some (.loop (rc .ready)) := by
    have h := World.alloc_heap_new (w.alloc (.deferred (some []))) (.loop (rc .ready))
    rw [World.size_alloc] at h
    rw [← hV]
    exact h
  have hVd : V.heap[w.heap.size]? = some (.deferred (some [])) := by
    rw [← hV]
    exact (Below.heap_alloc _ _ _ (by simp)).trans (World.alloc_heap_new w _)
  have hVb : Below w.heap.size w V := by rw [← hV]; exact ((Below.refl _ w).alloc (Nat.le_refl _) _).alloc (by simp) _
  have hVi : I [] V := by rw [← hV]; exact hI.alloc _ (hI.alloc _ h0)
  refine ⟨w.heap.size + 1, [{ target := .collected w.heap.size, args := #[] }], V, { target := .fn (.func gf) lb, args := #[.func (.yield (w.heap.size + 1)) #[] #[]] }, V, gf, #[.func (.yield (w.heap.size + 1)) #[] #[]] ++ lb, V, ?_, ?_, ?_, ?_, fun _ => by omega, ?_⟩
  · rw [← hV, hrc]
    exact run_enterLoop_outer _ _ _ _ _
  · simp only [resolve, hg]
    simp [go_sem]
  · intro f' _
    trivial
  · simp [invoke, go_sem, eg]
  · -- J: the caller's word, and that the record and the block for deferred calls stand
    have hJo : OwnFrom V.heap.size (fun pre W => I pre W ∧ W.heap[w.heap.size + 1]? = some (.loop (rc .ready)) ∧ W.heap[w.heap.size]? = some (.deferred (some []))) := by
      intro s A B row hs hgr hr
      have hlow : ∀ k, k < w.heap.size + 2 → ∀ o, A.heap[k]? = some o → B.heap[k]? = some o := fun k hk o ho => (hgr.block k (Array.getElem?_eq_some_iff.1 ho).1 (fun e => by have := (hr k e.symm).1; omega)).trans ho
      exact ⟨hI s A B row hs.1 hgr (fun r e => ⟨by have := (hr r e).1; omega, (hr r e).2⟩), hlow _ (by omega) _ hs.2.1, hlow _ (by omega) _ hs.2.2⟩
    refine (hit (w.heap.size + 1) (n - 1) _ Bx V (by omega) (by omega) hVb hJo (fun pre W1 v h => ⟨hIc pre W1 v h.1, (KeepsOthers.setCell W1 ⟨cs, 0, none⟩ v).same _ _ h.2.1 rfl, (KeepsOthers.setCell W1 ⟨cs, 0, none⟩ v).same _ _ h.2.2 rfl⟩) ?_ ⟨hVi, hVl, hVd⟩).mono ?_
    · rintro pre x W ⟨hi, hl, hd⟩ hlenN
      have hlt := (Array.getElem?_eq_some_iff.1 hl).1
      have hy := run_yield (P := P) (args := encs x) hl (by rw [hrc]; exact hps x)
      rw [hrc] at hy
      refine ⟨fn, _, assign, body, hy, roundIn_of_wpIn hfn (hassign _ x W _ ⟨_, run_beginRound hl (by rw [hrc]), ?_⟩)⟩
      have hl2 : (W.putObj (w.heap.size + 1) (.loop { rc .ready with state := .busy })).heap[w.heap.size + 1]? = some (.loop { rc .ready with state := .busy }) := World.putObj_heap_same hlt
      have hd2 : (W.putObj (w.heap.size + 1) (.loop { rc .ready with state := .busy })).heap[w.heap.size]? = some (.deferred (some [])) := (World.putObj_heap_other (by omega)).trans hd
      have hr2 : R W (W.putObj (w.heap.size + 1) (.loop { rc .ready with state := .busy })) := hRp _ _ _ _ hl rfl
      refine wpIn_mono (hbody _ pre x _ (hI.putObj _ hi (by omega) hl rfl) hlenN) ?_
      rintro e a3 W3 hp
      cases e with
      | normal =>
        obtain ⟨hi3, hr3, hk3⟩ := hp
        have hl3 := hk3.same _ _ hl2 rfl
        have hd3 := hk3.same _ _ hd2 rfl
        have hrun := run_endRound (P := P) none hl3
        have hsame : ({ { rc .ready with state := .busy } with state := if (none : Option Code).isNone then LoopState.ready else .done, pending := none } : Loop) = rc .ready := by rw [hrc]; rfl
        rw [hsame] at hrun
        have hl4 : (W3.putObj (w.heap.size + 1) (.loop (rc .ready))).heap[w.heap.size + 1]? = some (.loop (rc .ready)) := World.putObj_heap_same (Array.getElem?_eq_some_iff.1 hl3).1
        refine ⟨_, _, hrun, .inl ⟨rfl, ⟨hI.putObj _ hi3 (by omega) hl3 rfl, hl4, (World.putObj_heap_other (by omega)).trans hd3⟩, hRt (hRt hr2 hr3) (hRp _ _ _ _ hl3 rfl), ?_, fun j o hj ho => ?_⟩⟩
        · have h1 := hk3.size
          simp at h1 ⊢
          exact h1
        · by_cases hjl : j = w.heap.size + 1
          · subst hjl
            rw [hl] at hj
            cases hj
            exact hl4
          · exact (World.putObj_heap_other hjl).trans (hk3.same j o ((World.putObj_heap_other hjl).trans hj) ho)
      | ret =>
        obtain ⟨hb3, hk3⟩ := hp
        have hl3 := hk3.same _ _ hl2 rfl
        refine ⟨_, _, run_endRound (P := P) (some .ret) hl3, .inr ⟨rfl, hb3, ?_, fun j o hj ho hc => ?_⟩⟩
        · have h1 := hk3.size
          simp at h1 ⊢
          exact h1
        · exact (World.putObj_heap_other hj).trans (hk3.same j o ((World.putObj_heap_other hj).trans ho) hc)
      | exit id => exact hp.elim
      | goto t => exact hp.elim
      | panic ch => exact hp.elim
      | outgrown => exact hp.elim
    · rintro e W2 ⟨⟨v, rfl⟩, (⟨xs, hS, hi, hl, hd⟩ | ⟨pre, hSp', hBx⟩)⟩
      rotate_left
      · exact (hno pre hSp' hBx).elim
      have hrun := run_endLoop (P := P) hl (by rw [hrc]; simp)
      have hpn : (rc .ready).pending = none := by rw [hrc]
      rw [hpn] at hrun
      refine ⟨none, _, hrun, ?_⟩
      exact hdone _ xs _ (Nat.le_refl _) (hSp _ _ _ _ _ hS hl rfl) (hI.putObj _ hi (by omega) hl rfl) ((World.putObj_heap_other (by omega)).trans hd)
end Go.Proofs.YtkijckccfookeaaGreatDoor
