/- Rows of texts; a table of texts that a variable of the program's holds. Plain facts, no program. -/
import Derived.Test.YtkijckccfookeaaGreatDoorFRead
import Derived.Test.YtkijckccfookeaaGreatDoorM01
import Derived.Test.YtkijckccfookeaaGreatDoorRows
import Derived.Lib.LaidTab
import Derived.ChangeArms
import Derived.Maps.Keyed
import Derived.Carry
namespace Go.Proofs.YtkijckccfookeaaGreatDoor
open Go.RowKit

def strs (ws : List B) : List Value := ws.map fun s => .string ⟨s.toArray⟩
theorem strs_app (a b : List B) : strs (a ++ b) = strs a ++ strs b := by simp [strs]
theorem strs_len (a : List B) : (strs a).length = a.length := by simp [strs]
theorem strs_one (ws : List B) : ∀ u ∈ strs ws, u.oneCell' = true := by
  intro u hu
  simp only [strs, List.mem_map] at hu
  obtain ⟨p, _, rfl⟩ := hu
  rfl
theorem strs_fl (w : World) (S : Bs) (ws : List B) : Fl StrR 1 w S (strs ws) ws :=
  ⟨by simp [strs], fun k x hx => ⟨[.string ⟨x.toArray⟩], rfl, rfl, fun j u hu => by
    cases j with
    | zero => simp at hu; subst hu; simp [strs, hx]
    | succ j => simp at hu⟩⟩
/-- a table of the program's: what its variable holds -/
def TabS (w : World) (g : Nat) (cs : List Value) : Prop := ∃ t fz, w.heap[g]? = some (.cells cs.toArray t fz)
theorem TabS.cell {w : World} {g : Nat} {cs : List Value} (h : TabS w g cs) (i : Nat) : w.cell? ⟨g, i, none⟩ = cs[i]? := by
  obtain ⟨t, fz, h⟩ := h
  simp [World.cell?, h]
theorem TabS.lt {w : World} {g : Nat} {cs : List Value} (h : TabS w g cs) : g < w.heap.size := by
  obtain ⟨t, fz, h⟩ := h
  exact (Array.getElem?_eq_some_iff.1 h).1
theorem TabS.below {w w' : World} {g Bd : Nat} {cs : List Value} (h : TabS w g cs) (hb : Below Bd w w') (hg : g < Bd) : TabS w' g cs := by
  obtain ⟨t, fz, h⟩ := h
  exact ⟨t, fz, (hb.block g hg).trans h⟩
theorem strs_get {l : List B} {i : Nat} {s : B} (h : l[i]? = some s) : (strs l)[i]? = some (.string ⟨s.toArray⟩) := by simp [strs, h]
end Go.Proofs.YtkijckccfookeaaGreatDoor
/- What listed tables hold when the call begins: the plain part. -/
namespace Go.Proofs.YtkijckccfookeaaGreatDoor
open Go.RowKit

def strData {H : Type} (ss : List B) : DataW H := .agg (ss.map fun s => .lit (.string s))
/-- an array of texts that reads as the table holds the table's texts, cell for cell -/
theorem cells_of_strs {H : Type} {enc : TypeId × Value → H} {P : Program} {w : World} {base : Nat} {sp : Nat → Bool} {held : Bool} {fuel : Nat} {t e : TypeId} {n : Nat} {cs : List Value} {ss : List B} {p : List MemPlace}
    (ht : P.underlying t = some (.array n e)) (he : P.underlying e = some .string) (hce : P.cellsOf e = 1) (hct : P.cellsOf t = n)
    (h : DataW.trod enc P w base sp held fuel t cs = some (strData ss, p)) : cs = strs ss := by
  cases fuel with
  | zero => simp [DataW.trod] at h
  | succ fuel =>
    simp only [DataW.trod, ht, hce, hct, Nat.mul_one] at h
    split at h
    · rename_i hl
      obtain ⟨xs, hm, hx⟩ := Option.map_eq_some_iff.1 h
      have hxs : xs.map (·.1) = ss.map fun s => (DataW.lit (.string s) : DataW H) := by
        have := congrArg Prod.fst hx
        simpa [strData] using this
      have hxl : xs.length = n := by simpa using Lib.mapM_length hm
      have hzl : ss.length = n := by
        have := congrArg List.length hxs
        simp at this
        omega
      apply List.ext_getElem?
      intro i
      by_cases hi : i < n
      · obtain ⟨b, hb, hf⟩ := Lib.mapM_at hm i i (by simp [hi])
        obtain ⟨s, hc, rfl, _⟩ := DataW.trod_string he hf
        have h1 : cs[i]? = some (.string s) := by
          have := congrArg (·[0]?) hc
          simpa [List.getElem?_take, List.getElem?_drop] using this
        have h2 : (xs.map (·.1))[i]? = some (DataW.lit (.string s.data.toList) : DataW H) := by simp [hb]
        rw [hxs] at h2
        simp only [List.getElem?_map, Option.map_eq_some_iff, DataW.lit.injEq, Lit.string.injEq] at h2
        obtain ⟨z', hz', hz2⟩ := h2
        rw [h1]
        simp only [strs, List.getElem?_map, hz', Option.map_some, Option.some.injEq, Value.string.injEq]
        subst hz2
        rfl
      · rw [List.getElem?_eq_none (by omega), List.getElem?_eq_none (by simp [strs]; omega)]
    · cases h
def VarReads (P : Program) (w : World) (n : String) (d : DataW Unit) : Prop :=
  ∃ g t cs fuel p, P.globalNamed n = some g ∧ (P.globals[g]?).map (·.type) = some t ∧ w.var? P n = some cs ∧ DataW.trod (fun _ => ()) P w 0 (fun _ => true) false fuel t cs.toList = some (d, p)
theorem laidVars_reads {P : Program} {w : World} : ∀ {l : List (String × DataW Unit)} {ps : List MemPlace}, DataW.LaidVars P w l ps → ∀ n d, (n, d) ∈ l → VarReads P w n d
  | [], _, _, _, _, hm => by cases hm
  | (n', d') :: r, ps, h, n, d, hm => by
    obtain ⟨g, t, cs, fuel, p, q, h1, h2, h3, h4, h5, _⟩ := h
    rcases List.mem_cons.1 hm with e | e
    · cases e
      exact ⟨g, t, cs, fuel, p, h1, h2, h3, h4⟩
    · exact laidVars_reads h5 n d e
theorem laid_reads {P : Program} {w : World} {l : List (String × DataW Unit)} (h : laidMet P l w) {n : String} {d : DataW Unit} (hm : (n, d) ∈ l) : VarReads P w n d :=
  let ⟨_, hv, _⟩ := h
  laidVars_reads hv n d hm
theorem var_heap {P : Program} {w : World} {n : String} {g : Nat} {cs : Array Value} (hg : P.globalNamed n = some g) (h : w.var? P n = some cs) : ∃ t fz, w.heap[g]? = some (.cells cs t fz) := by
  unfold World.var? at h
  rw [hg] at h
  simp only [Option.bind_some] at h
  split at h
  · rename_i cs' t fz heq
    cases h
    exact ⟨t, fz, heq⟩
  · cases h
theorem tabS_strs {P : Program} {w : World} {n : String} {ss : List B} {g : Nat} {t e : TypeId} {m : Nat} (h : VarReads P w n (strData ss)) (hg : P.globalNamed n = some g) (hty : (P.globals[g]?).map (·.type) = some t)
    (ht : P.underlying t = some (.array m e)) (he : P.underlying e = some .string) (hce : P.cellsOf e = 1) (hct : P.cellsOf t = m) : TabS w g (strs ss) := by
  obtain ⟨g', t', cs, fuel, p, hg', ht', hv, hd⟩ := h
  obtain rfl := Option.some.inj (hg.symm.trans hg')
  obtain rfl := Option.some.inj (hty.symm.trans ht')
  have := cells_of_strs ht he hce hct hd
  obtain ⟨t2, fz, hh⟩ := var_heap hg hv
  exact ⟨t2, fz, by rw [hh, ← this]⟩
theorem tabS_ints {P : Program} {w : World} {n : String} {k : IntKind} {zs : List Int} {g : Nat} {t e : TypeId} {m : Nat} (h : VarReads P w n (.agg (zs.map fun z => .lit (.int k z)))) (hg : P.globalNamed n = some g) (hty : (P.globals[g]?).map (·.type) = some t)
    (ht : P.underlying t = some (.array m e)) (he : P.underlying e = some (.int k)) (hce : P.cellsOf e = 1) (hct : P.cellsOf t = m) : TabS w g (zs.map fun z => Value.int k z) := by
  obtain ⟨g', t', cs, fuel, p, hg', ht', hv, hd⟩ := h
  obtain rfl := Option.some.inj (hg.symm.trans hg')
  obtain rfl := Option.some.inj (hty.symm.trans ht')
  have := Lib.cells_of_tab ht he hce hct hd
  obtain ⟨t2, fz, hh⟩ := var_heap hg hv
  exact ⟨t2, fz, by rw [hh, ← this]⟩
theorem var_lt {P : Program} {w : World} {n : String} {d : DataW Unit} {g : Nat} (h : VarReads P w n d) (hg : P.globalNamed n = some g) : g < w.heap.size := by
  obtain ⟨g', t', cs, fuel, p, hg', ht', hv, hd⟩ := h
  obtain ⟨t2, fz, hh⟩ := var_heap hg hv
  exact (Array.getElem?_eq_some_iff.1 hh).1
end Go.Proofs.YtkijckccfookeaaGreatDoor
/- Maps of the call's own, as functions: what they hold at each key. Plain facts, no program. -/
namespace Go.Proofs.YtkijckccfookeaaGreatDoor
open Go.RowKit Go.MapKept

/-- how keys are spelled: texts, numbers -/
structure Emb (κ : Type) where
  emb : κ → Value
  d : TypeDesc
  inj : ∀ {a b}, emb a = emb b → a = b
  key : ∀ a, IsKey d (emb a)
def embB : Emb B where
  emb a := .string ⟨a.toArray⟩
  d := .string
  inj h := by
    injection h with h
    injection h with h
    exact List.toArray_inj h
  key a := trivial
def embI : Emb Int where
  emb a := .int .i64 a
  d := .int .i64
  inj h := by injection h
  key a := rfl
/-- block b is a map that holds just what f says -/
def MapF {κ : Type} (E : Emb κ) (w : World) (b : Nat) (f : κ → Option Value) : Prop :=
  ∃ es clock, ∃ kv : List (κ × Value), w.heap[b]? = some (.map es clock) ∧ es.toList.map (fun e => (e.key, e.val)) = kv.map (fun x : κ × Value => (E.emb x.1, x.2)) ∧
    ∀ k v, f k = some v ↔ (k, v) ∈ kv
section
variable {κ : Type} {E : Emb κ} {w w' : World} {b : Nat} {f : κ → Option Value}
theorem MapF.lt (h : MapF E w b f) : b < w.heap.size := by
  obtain ⟨es, clock, kv, h1, _⟩ := h
  exact (Array.getElem?_eq_some_iff.1 h1).1
theorem MapF.keep (h : MapF E w b f) (hk : w'.heap[b]? = w.heap[b]?) : MapF E w' b f := by
  obtain ⟨es, clock, kv, h1, h2⟩ := h
  exact ⟨es, clock, kv, hk.trans h1, h2⟩
theorem MapF.below (h : MapF E w b f) (hb : Below w.heap.size w w') : MapF E w' b f := h.keep (hb.block b h.lt)
theorem MapF.grown (h : MapF E w b f) {row : Option Nat} (hg : w.grownBy w' row) (hne : some b ≠ row) : MapF E w' b f := h.keep (hg.block b h.lt hne)
theorem MapF.drewN (h : MapF E w b f) (n : Nat) : MapF E (w.drewN n) b f := h
theorem MapF.drew (h : MapF E w b f) : MapF E w.drew b f := h
theorem MapF.isMap (h : MapF E w b f) : ∃ es clock, w.heap[b]? = some (.map es clock) := by
  obtain ⟨es, clock, kv, h1, h2⟩ := h
  exact ⟨es, clock, h1⟩
theorem MapF.new (E : Emb κ) (w : World) : MapF E (w.alloc (.map #[] 0)) w.heap.size (fun _ => none) :=
  ⟨#[], 0, [], heap_alloc_new w _, rfl, by simp⟩
theorem MapF.congr (h : MapF E w b f) {g : κ → Option Value} (hg : ∀ k, g k = f k) : MapF E w b g := by
  obtain ⟨es, clock, kv, h1, h2, h3⟩ := h
  exact ⟨es, clock, kv, h1, h2, fun k v => by rw [hg]; exact h3 k v⟩
theorem MapF.find {P : Program} {K : TypeId} (h : MapF E w b f) (hK : P.underlying K = some E.d) (k : κ) :
    ∃ es clock, w.heap[b]? = some (.map es clock) ∧ ((f k = none ∧ (Instr.findKey K (E.emb k) es.toList).run P w = .ok none w) ∨ ∃ v j, f k = some v ∧ (Instr.findKey K (E.emb k) es.toList).run P w = .ok (some (j, v)) w) := by
  obtain ⟨es, clock, kv, h1, h2, h3⟩ := h
  refine ⟨es, clock, h1, ?_⟩
  have hks : ∀ x ∈ es.toList, IsKey E.d x.key := by
    intro x hx
    have : (x.key, x.val) ∈ es.toList.map (fun e => (e.key, e.val)) := List.mem_map.2 ⟨x, hx, rfl⟩
    rw [h2, List.mem_map] at this
    obtain ⟨y, _, hy⟩ := this
    injection hy with hy1 hy2
    rw [← hy1]
    exact E.key _
  rcases findNow_spec (d := E.d) (E.key k) es.toList 0 hks with ⟨g1, g2⟩ | ⟨j, e, g1, g2, g3⟩
  · refine .inl ⟨?_, run_findKey hK g1⟩
    cases hf : f k with
    | none => rfl
    | some v =>
      have hm := (h3 k v).1 hf
      have : (E.emb k, v) ∈ kv.map (fun x : κ × Value => (E.emb x.1, x.2)) := List.mem_map.2 ⟨(k, v), hm, rfl⟩
      rw [← h2, List.mem_map] at this
      obtain ⟨x, hx, hy⟩ := this
      injection hy with hy1 hy2
      exact absurd hy1 (g2 x hx)
  · refine .inr ⟨e.val, 0 + j, ?_, run_findKey hK g1⟩
    have he : e ∈ es.toList := List.mem_of_getElem? g2
    have : (e.key, e.val) ∈ es.toList.map (fun e => (e.key, e.val)) := List.mem_map.2 ⟨e, he, rfl⟩
    rw [h2, List.mem_map] at this
    obtain ⟨y, hy, hy2⟩ := this
    injection hy2 with hy3 hy4
    have : y.1 = k := E.inj (hy3.trans g3)
    rw [h3]
    rw [← this, ← hy4]
    exact hy
/-- 'v, ok := m[k]' -/
theorem MapF.look2 {P : Program} {T K El : TypeId} (h : MapF E w b f) (hT : P.underlying T = some (.map K El)) (hK : P.underlying K = some E.d) {z : Value} (hz : (zeroValue El).run P w = .ok z w) (k : κ) :
    (Instr.lookup T (.map (some b)) (E.emb k) true).run P w = .ok (.tuple #[(f k).getD z, .bool (f k).isSome]) w := by
  obtain ⟨es, clock, h1, ⟨h2, h3⟩ | ⟨v, j, h2, h3⟩⟩ := h.find hK k
  · simp [Instr.lookup, run_underlying hT, MapKept.run_getObj_map h1, MapKept.run_checkKey hK (E.key k), h3, hz, Result.andThen, h2]
  · simp [Instr.lookup, run_underlying hT, MapKept.run_getObj_map h1, MapKept.run_checkKey hK (E.key k), h3, Result.andThen, h2]
/-- 'm[k]' -/
theorem MapF.look1 {P : Program} {T K El : TypeId} (h : MapF E w b f) (hT : P.underlying T = some (.map K El)) (hK : P.underlying K = some E.d) {z : Value} (hz : (zeroValue El).run P w = .ok z w) (k : κ) :
    (Instr.lookup T (.map (some b)) (E.emb k) false).run P w = .ok ((f k).getD z) w := by
  obtain ⟨es, clock, h1, ⟨h2, h3⟩ | ⟨v, j, h2, h3⟩⟩ := h.find hK k
  · simp [Instr.lookup, run_underlying hT, MapKept.run_getObj_map h1, MapKept.run_checkKey hK (E.key k), h3, hz, Result.andThen, h2]
  · simp [Instr.lookup, run_underlying hT, MapKept.run_getObj_map h1, MapKept.run_checkKey hK (E.key k), h3, Result.andThen, h2]
/-- 'm[k] = v', k new -/
theorem MapF.put [DecidableEq κ] {P : Program} {T K El : TypeId} (h : MapF E w b f) (hT : P.underlying T = some (.map K El)) (hK : P.underlying K = some E.d) (k : κ) (v : Value) (hn : f k = none) :
    ∃ w', (Instr.mapUpdate T (.map (some b)) (E.emb k) v).run P w = .ok () w' ∧ MapF E w' b (fun t => if t = k then some v else f t) ∧ w.grownBy w' (some b) := by
  obtain ⟨es0, clock0, g1, g2⟩ := h.find hK k
  obtain ⟨es, clock, kv, h1, h2, h3⟩ := h
  rw [h1] at g1
  injection g1 with g1
  injection g1 with g1 g1'
  subst g1 g1'
  rcases g2 with ⟨_, g3⟩ | ⟨v', j, g3, _⟩
  · refine ⟨{ w with heap := w.heap.setIfInBounds b (.map (es.push ⟨E.emb k, v, clock⟩) (clock + 1)) }, ?_, ⟨es.push ⟨E.emb k, v, clock⟩, clock + 1, kv ++ [(k, v)], (heap_set h1).1, ?_, ?_⟩, ⟨rfl, rfl, rfl, by simp, fun i hi hne => (heap_set h1).2 i (fun e => hne (by rw [e]))⟩⟩
    · simp [Instr.mapUpdate, run_underlying hT, MapKept.run_getObj_map h1, MapKept.run_checkKey hK (E.key k), g3, MapKept.run_setObj_map _ h1, Result.andThen]
    · simp [h2]
    · intro t u
      rw [List.mem_append, List.mem_singleton, Prod.mk.injEq]
      show ((if t = k then some v else f t) = some u) ↔ _
      by_cases ht : t = k
      · subst ht
        rw [if_pos rfl]
        constructor
        · intro e; injection e with e; exact .inr ⟨rfl, e.symm⟩
        · rintro (e | ⟨_, rfl⟩)
          · rw [(h3 t u).2 e] at hn; cases hn
          · rfl
      · rw [if_neg ht, h3]
        simp [ht]
  · rw [hn] at g3
    cases g3
theorem wpList_look2 {P : Program} {ops : Array Oper} {rest : List Oper} {o : Oper} {a : Act} {Q : Exit → Act → World → Prop} {T K El : TypeId} (hg : o.guard = none) (m x : Operand) (hop : o.op = Op.lookup T m x true)
    (hT : P.underlying T = some (.map K El)) (hK : P.underlying K = some E.d) {z : Value} (hz : (zeroValue El).run P w = .ok z w) (hm : a.eval m = .map (some b)) (h : MapF E w b f) (k : κ) (hx : a.eval x = E.emb k)
    (hc : wpList P ops Q rest (a.put o.dst (.tuple #[(f k).getD z, .bool (f k).isSome])) w) : wpList P ops Q (o :: rest) a w := by
  refine wpList_plain hg fun K' hK' => ?_
  have hrun := h.look2 hT hK hz k
  unfold Oper.wp
  simp [execOp, hop, hm, hx, hrun, Result.andThen]
  exact hK' _ _ hc
theorem wpList_look1 {P : Program} {ops : Array Oper} {rest : List Oper} {o : Oper} {a : Act} {Q : Exit → Act → World → Prop} {T K El : TypeId} (hg : o.guard = none) (m x : Operand) (hop : o.op = Op.lookup T m x false)
    (hT : P.underlying T = some (.map K El)) (hK : P.underlying K = some E.d) {z : Value} (hz : (zeroValue El).run P w = .ok z w) (hm : a.eval m = .map (some b)) (h : MapF E w b f) (k : κ) (hx : a.eval x = E.emb k)
    (hc : wpList P ops Q rest (a.put o.dst ((f k).getD z)) w) : wpList P ops Q (o :: rest) a w := by
  refine wpList_plain hg fun K' hK' => ?_
  have hrun := h.look1 hT hK hz k
  unfold Oper.wp
  simp [execOp, hop, hm, hx, hrun, Result.andThen]
  exact hK' _ _ hc
theorem wpList_put [DecidableEq κ] {P : Program} {ops : Array Oper} {rest : List Oper} {o : Oper} {a : Act} {Q : Exit → Act → World → Prop} {T K El : TypeId} (hg : o.guard = none) (m x y : Operand) (hop : o.op = Op.mapUpdate T m x y)
    (hT : P.underlying T = some (.map K El)) (hK : P.underlying K = some E.d) (hm : a.eval m = .map (some b)) (h : MapF E w b f) (k : κ) (hx : a.eval x = E.emb k) (v : Value) (hv : a.eval y = v) (hn : f k = none)
    (hc : ∀ w', MapF E w' b (fun t => if t = k then some v else f t) → w.grownBy w' (some b) → wpList P ops Q rest (a.put o.dst undef) w') : wpList P ops Q (o :: rest) a w := by
  refine wpList_plain hg fun K' hK' => ?_
  obtain ⟨w', hrun, r1, r2⟩ := h.put hT hK k v hn
  unfold Oper.wp
  simp [execOp, hop, hm, hx, hv, hrun, Result.andThen]
  exact hK' _ _ (hc w' r1 r2)
end
end Go.Proofs.YtkijckccfookeaaGreatDoor
