/- What the listed tables hold when the call begins. -/
import Derived.Test.YtkijckccfookeaaDoorRows
import Derived.Test.YtkijckccfookeaaDoorUnA
import Derived.Lib.LaidTab
import Derived.ChangeArms
namespace Go.Proofs.YtkijckccfookeaaDoor
open Go.RowKit

def strData {H : Type} (ss : List B) : DataW H := .agg (ss.map fun s => .lit (.string s))
/-- an array of texts that reads as the table holds the table's texts, cell for cell -/
theorem cells_of_strs {H : Type} {enc : TypeId × Value → H} {P : Program} {w : World} {base : Nat} {sp : Nat → Bool} {held : Bool} {fuel : Nat} {t e : TypeId} {n : Nat} {cs : List Value} {ss : List B} {p : List MemPlace}
    (ht : P.underlying t = some (.array n e)) (he : P.underlying e = some .string) (hce : P.cellsOf e = 1) (hct : P.cellsOf t = n)
    (h : DataW.trod enc P w base sp held fuel t cs = some (strData ss, p)) : cs = strs ss := by
  cases fuel with
  | zero => simp [DataW.trod] at h
  | succ fuel =>
    simp only [DataW.trod, ht, hce, hct, Nat.mul_one] at h
    split at h
    · rename_i hl
      obtain ⟨xs, hm, hx⟩ := Option.map_eq_some_iff.1 h
      have hxs : xs.map (·.1) = ss.map fun s => (DataW.lit (.string s) : DataW H) := by
        have := congrArg Prod.fst hx
        simpa [strData] using this
      have hxl : xs.length = n := by simpa using Lib.mapM_length hm
      have hzl : ss.length = n := by
        have := congrArg List.length hxs
        simp at this
        omega
      apply List.ext_getElem?
      intro i
      by_cases hi : i < n
      · obtain ⟨b, hb, hf⟩ := Lib.mapM_at hm i i (by simp [hi])
        obtain ⟨s, hc, rfl, _⟩ := DataW.trod_string he hf
        have h1 : cs[i]? = some (.string s) := by
          have := congrArg (·[0]?) hc
          simpa [List.getElem?_take, List.getElem?_drop] using this
        have h2 : (xs.map (·.1))[i]? = some (DataW.lit (.string s.data.toList) : DataW H) := by simp [hb]
        rw [hxs] at h2
        simp only [List.getElem?_map, Option.map_eq_some_iff, DataW.lit.injEq, Lit.string.injEq] at h2
        obtain ⟨z', hz', hz2⟩ := h2
        rw [h1]
        simp only [strs, List.getElem?_map, hz', Option.map_some, Option.some.injEq, Value.string.injEq]
        subst hz2
        rfl
      · rw [List.getElem?_eq_none (by omega), List.getElem?_eq_none (by simp [strs]; omega)]
    · cases h
def VarReads (P : Program) (w : World) (n : String) (d : DataW Unit) : Prop :=
  ∃ g t cs fuel p, P.globalNamed n = some g ∧ (P.globals[g]?).map (·.type) = some t ∧ w.var? P n = some cs ∧ DataW.trod (fun _ => ()) P w 0 (fun _ => true) false fuel t cs.toList = some (d, p)
theorem laidVars_reads {P : Program} {w : World} : ∀ {l : List (String × DataW Unit)} {ps : List MemPlace}, DataW.LaidVars P w l ps → ∀ n d, (n, d) ∈ l → VarReads P w n d
  | [], _, _, _, _, hm => by cases hm
  | (n', d') :: r, ps, h, n, d, hm => by
    obtain ⟨g, t, cs, fuel, p, q, h1, h2, h3, h4, h5, _⟩ := h
    rcases List.mem_cons.1 hm with e | e
    · cases e
      exact ⟨g, t, cs, fuel, p, h1, h2, h3, h4⟩
    · exact laidVars_reads h5 n d e
theorem laid_reads {P : Program} {w : World} {l : List (String × DataW Unit)} (h : laidMet P l w) {n : String} {d : DataW Unit} (hm : (n, d) ∈ l) : VarReads P w n d :=
  let ⟨_, hv, _⟩ := h
  laidVars_reads hv n d hm
theorem var_heap {P : Program} {w : World} {n : String} {g : Nat} {cs : Array Value} (hg : P.globalNamed n = some g) (h : w.var? P n = some cs) : ∃ t fz, w.heap[g]? = some (.cells cs t fz) := by
  unfold World.var? at h
  rw [hg] at h
  simp only [Option.bind_some] at h
  split at h
  · rename_i cs' t fz heq
    cases h
    exact ⟨t, fz, heq⟩
  · cases h
theorem tabS_strs {P : Program} {w : World} {n : String} {ss : List B} {g : Nat} {t e : TypeId} {m : Nat} (h : VarReads P w n (strData ss)) (hg : P.globalNamed n = some g) (hty : (P.globals[g]?).map (·.type) = some t)
    (ht : P.underlying t = some (.array m e)) (he : P.underlying e = some .string) (hce : P.cellsOf e = 1) (hct : P.cellsOf t = m) : TabS w g (strs ss) := by
  obtain ⟨g', t', cs, fuel, p, hg', ht', hv, hd⟩ := h
  obtain rfl := Option.some.inj (hg.symm.trans hg')
  obtain rfl := Option.some.inj (hty.symm.trans ht')
  have := cells_of_strs ht he hce hct hd
  obtain ⟨t2, fz, hh⟩ := var_heap hg hv
  exact ⟨t2, fz, by rw [hh, ← this]⟩
theorem tabS_ints {P : Program} {w : World} {n : String} {k : IntKind} {zs : List Int} {g : Nat} {t e : TypeId} {m : Nat} (h : VarReads P w n (.agg (zs.map fun z => .lit (.int k z)))) (hg : P.globalNamed n = some g) (hty : (P.globals[g]?).map (·.type) = some t)
    (ht : P.underlying t = some (.array m e)) (he : P.underlying e = some (.int k)) (hce : P.cellsOf e = 1) (hct : P.cellsOf t = m) : TabS w g (zs.map fun z => Value.int k z) := by
  obtain ⟨g', t', cs, fuel, p, hg', ht', hv, hd⟩ := h
  obtain rfl := Option.some.inj (hg.symm.trans hg')
  obtain rfl := Option.some.inj (hty.symm.trans ht')
  have := Lib.cells_of_tab ht he hce hct hd
  obtain ⟨t2, fz, hh⟩ := var_heap hg hv
  exact ⟨t2, fz, by rw [hh, ← this]⟩
theorem var_lt {P : Program} {w : World} {n : String} {d : DataW Unit} {g : Nat} (h : VarReads P w n d) (hg : P.globalNamed n = some g) : g < w.heap.size := by
  obtain ⟨g', t', cs, fuel, p, hg', ht', hv, hd⟩ := h
  obtain ⟨t2, fz, hh⟩ := var_heap hg hv
  exact (Array.getElem?_eq_some_iff.1 hh).1
theorem laid_tabs {w : World} {l : List (String × DataW Unit)} (h : laidMet Tryd.prog l w)
    (m1 : ("fleuron/unparse.opNames", Rows.laid_fleuron_unparse_opNames) ∈ l) (m2 : ("fleuron/unparse.anchorNames", Rows.laid_fleuron_unparse_anchorNames) ∈ l) (m3 : ("fleuron/unparse.lookupNames", Rows.laid_fleuron_unparse_lookupNames) ∈ l)
    (m4 : ("internal/strconv.uint64pow10", Rows.laid_internal_strconv_uint64pow10) ∈ l) : Tabs w :=
  ⟨tabS_strs (laid_reads h m1) (by kernel_rfl) (by kernel_rfl) Tryd.underlying109 Tryd.underlying9 (by kernel_rfl) (by kernel_rfl),
   tabS_strs (laid_reads h m2) (by kernel_rfl) (by kernel_rfl) Tryd.underlying150 Tryd.underlying9 (by kernel_rfl) (by kernel_rfl),
   tabS_strs (laid_reads h m3) (by kernel_rfl) (by kernel_rfl) Tryd.underlying151 Tryd.underlying9 (by kernel_rfl) (by kernel_rfl),
   tabS_ints (k := .u64) (zs := Lib.pow10Tab) (laid_reads h m4) (by kernel_rfl) (by kernel_rfl) Tryd.underlying192 Tryd.underlying178 (by kernel_rfl) (by kernel_rfl)⟩
theorem laid_size {w : World} {l : List (String × DataW Unit)} (h : laidMet Tryd.prog l w) (m1 : ("math/bits.deBruijn64tab", Rows.laid_math_bits_deBruijn64tab) ∈ l) : nG ≤ w.heap.size :=
  var_lt (laid_reads h m1) (by kernel_rfl)
end Go.Proofs.YtkijckccfookeaaDoor
