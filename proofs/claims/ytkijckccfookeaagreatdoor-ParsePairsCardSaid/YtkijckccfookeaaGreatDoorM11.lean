/- parse.Op. -/
import Derived.Test.YtkijckccfookeaaGreatDoorM10
import Derived.Test.YtkijckccfookeaaGreatDoorM03
import Derived.Test.YtkijckccfookeaaGreatDoorM04
import Derived.Laws.Rows
import Derived.Test.YtkijckccfookeaaGreatDoorProg
namespace Go.Proofs.YtkijckccfookeaaGreatDoor
open Go.RowKit

theorem opN_none (t : B) (h : ∀ (j : Nat) (s : B), opNames[j]? = some s → s ≠ t) : opN t = 0 := by
  rw [opN, if_neg]
  intro hm
  obtain ⟨j, hj⟩ := List.mem_iff_getElem?.1 hm
  exact h j t hj rfl
theorem opN_at (t : B) (k : Nat) (h : opNames[k]? = some t) (hl : ∀ (j : Nat) (s : B), j < k → opNames[j]? = some s → s ≠ t) : opN t = (k : Int) + 1 := by
  rw [opN, if_pos (List.mem_of_getElem? h)]
  have : opNames.findIdx (· == t) = k := by
    rw [List.findIdx_eq (List.getElem?_eq_some_iff.1 h).1]
    obtain ⟨hk, hg⟩ := List.getElem?_eq_some_iff.1 h
    refine ⟨by simp [hg], fun j hj => ?_⟩
    have := hl j opNames[j] hj (List.getElem?_eq_getElem (by omega))
    simpa using this
  rw [this]
theorem ops_len : opNames.length = 39 := by decide
theorem index_names (k : Nat) (s : B) (h : opNames[k]? = some s) (w : World) : (Instr.index 144 (.agg (strs opNames).toArray) (.int .i64 (k : Int))).run Tryz.prog w = .ok (.string ⟨s.toArray⟩) w := by
  have hk : k < 39 := by have := (List.getElem?_eq_some_iff.1 h).1; rw [ops_len] at this; exact this
  have hs := strs_get h
  have hk2 : (k : Int) < 39 := by omega
  have hk3 : (0 : Int) ≤ k := by omega
  simp [Instr.index, go_sem, hk2, hk3, hs]
  omega
theorem size_names : (strs opNames).toArray.size = 39 := by simp [strs_len, ops_len]
set_option maxRecDepth 100000 in
set_option maxHeartbeats 2000000 in
theorem parseOp_ok (w : World) (t : B) (hT : TabS w 0 (strs opNames)) : Calls Tryz.prog 25 #[.string ⟨t.toArray⟩] w fun e w' => e = .returned (.tuple #[.int .i64 (opN t), .bool (opN t != 0)]) ∧ w = w' := by
  obtain ⟨ty, fz, hb⟩ := hT
  have hix := Lib.hid index_names
  have hsz := size_names
  have hpost : Hid (∀ k : Nat, (∀ j s, j < k → opNames[j]? = some s → s ≠ t) → ((opNames[k]? = some t → opN t = (k : Int) + 1) ∧ (39 ≤ k → opN t = 0))) := fun k hl => by
    refine ⟨fun h => opN_at t k h hl, fun hk => opN_none t fun j s hj => hl j s ?_ hj⟩
    have := (List.getElem?_eq_some_iff.1 hj).1
    rw [ops_len] at this
    omega
  generalize (strs opNames).toArray = cs at *
  have Hsz := Lib.hid (show (Tryz.prog.info? 144).map (·.size) = some cs.size by rw [hsz]; kernel_rfl)
  clear hsz
  go_enter Tryz.func25, Tryz.ntmps25
  go_wp2_with (refine wpList_load_row rfl 144 (.global 0) rfl 0 rfl ty cs fz _ hb Tryz.underlying144 rfl Hsz.out ?_)
  go_loop [7] (fun i => ∃ k : Nat, k ≤ 39 ∧ i = .int .i64 k ∧ Hid (∀ j s, j < k → opNames[j]? = some s → s ≠ t)) (fun i => 39 - (intOf i).toNat)
  case atStart => exact ⟨0, by omega, rfl, fun j s hj => by omega⟩
  case round =>
    obtain ⟨k, hk, rfl, hl⟩ := hrel
    by_cases hlt : k < 39
    · obtain ⟨s, hs⟩ : ∃ s, opNames[k]? = some s := ⟨_, List.getElem?_eq_getElem (by rw [ops_len]; exact hlt)⟩
      have hrun := hix.out k s hs
      by_cases he : s = t
      · have hres := Lib.hid ((hpost.out k hl.out).1 (by rw [hs, he]))
        have e1 : (s == t) = true := by simp [he]
        clear hs he
        go_wp2
        go_ret2
        rw [hres.out]
        refine ⟨?_, rfl⟩
        have : (((k : Int) + 1) != 0) = true := by simp; omega
        rw [this]
        rfl
      · have hnx : Hid (∀ j s, j < k + 1 → opNames[j]? = some s → s ≠ t) := fun j s' hj hs' => by
          by_cases hjk : j = k
          · subst hjk
            rw [hs] at hs'
            cases hs'
            exact he
          · exact hl.out j s' (by omega) hs'
        have e1 : (s == t) = false := by simpa using he
        clear hs he
        go_wp2
        go_round
        case rel => exact ⟨k + 1, by omega, by simp, hnx⟩
        case measure => simp [intOf]; omega
    · have hres := Lib.hid ((hpost.out k hl.out).2 (by omega))
      go_wp2
      go_ret2
      rw [hres.out]
      exact ⟨rfl, rfl⟩
end Go.Proofs.YtkijckccfookeaaGreatDoor
/- Append to a row of the call's own: one element, or a row. -/
namespace Go.Proofs.YtkijckccfookeaaGreatDoor
open Go.RowKit

/-- an element type, its slices -/
def ElT (e t : TypeId) (size : Nat) : Prop := ∃ i z, Tryz.prog.underlying t = some (.slice e) ∧ Tryz.prog.info? e = some i ∧ i.zero = some z ∧ i.size = size ∧ z.cells.size = size ∧ i.bytes ≤ 1000 ∧ 0 < size
theorem ElT.mk {e t : TypeId} {size : Nat} (ht : Tryz.prog.underlying t = some (.slice e)) (h : (Tryz.prog.info? e).map (fun i => (i.zero.map (fun z => z.cells.size), i.size, decide (i.bytes ≤ 1000))) = some (some size, size, true)) (hs : 0 < size) : ElT e t size := by
  obtain ⟨i, hi, he⟩ := Option.map_eq_some_iff.1 h
  simp only [Prod.mk.injEq, decide_eq_true_eq] at he
  obtain ⟨z, hz, hc⟩ := Option.map_eq_some_iff.1 he.1
  exact ⟨i, z, ht, hi, hz, he.2.1, hc, he.2.2, hs⟩
theorem elInt : ElT 3 22 1 := .mk Tryz.underlying22 (by kernel_rfl) (by decide)
theorem elRow : ElT 22 73 1 := .mk Tryz.underlying73 (by kernel_rfl) (by decide)
theorem elIns : ElT 61 57 2 := .mk Tryz.underlying57 (by kernel_rfl) (by decide)
theorem elCode : ElT 57 30 1 := .mk Tryz.underlying30 (by kernel_rfl) (by decide)
theorem elPt : ElT 139 51 3 := .mk Tryz.underlying51 (by kernel_rfl) (by decide)
theorem elPart : ElT 87 54 3 := .mk Tryz.underlying54 (by kernel_rfl) (by decide)
theorem elAnch : ElT 89 55 4 := .mk Tryz.underlying55 (by kernel_rfl) (by decide)
theorem elDelta : ElT 91 56 4 := .mk Tryz.underlying56 (by kernel_rfl) (by decide)
theorem elGlyph : ElT 59 24 9 := .mk Tryz.underlying24 (by kernel_rfl) (by decide)
theorem elChar : ElT 93 25 2 := .mk Tryz.underlying25 (by kernel_rfl) (by decide)
theorem elCall : ElT 95 74 2 := .mk Tryz.underlying74 (by kernel_rfl) (by decide)
theorem elRule : ElT 76 70 6 := .mk Tryz.underlying70 (by kernel_rfl) (by decide)
theorem elLook : ElT 72 26 3 := .mk Tryz.underlying26 (by kernel_rfl) (by decide)
theorem elFeat : ElT 97 27 2 := .mk Tryz.underlying27 (by kernel_rfl) (by decide)
theorem elAxis : ElT 99 28 4 := .mk Tryz.underlying28 (by kernel_rfl) (by decide)
theorem elRegion : ElT 104 29 1 := .mk Tryz.underlying29 (by kernel_rfl) (by decide)
theorem elTent : ElT 101 102 3 := .mk Tryz.underlying102 (by kernel_rfl) (by decide)
theorem elWord : ElT 124 119 3 := .mk Tryz.underlying119 (by kernel_rfl) (by decide)
abbrev Loc (w : World) (v v' : Value) : Prop := v'.ownBlock = v.ownBlock ∨ ∀ g, v'.ownBlock = some g → w.heap.size ≤ g
theorem run_app {e t size : Nat} (E : ElT e t size) (ty : TypeId) (w1 : World) (base n c : Nat) (A : Option Addr) (xs : List Value) (hown : w1.ownsRow base e size (.slice A n c) n xs)
    (Bd : Nat) (A2 : Option Addr) (m c2 : Nat) (news : List Value) (hr : Rd w1 Bd A2 m size news) (h1 : ∀ u ∈ news, u.oneCell' = true) (hn : n + m ≤ 100000000000) (hb : base ≤ w1.heap.size) :
    ∃ A' c' w', (Builtin.append_ #[t, t] ty #[.slice A n c, .slice A2 m c2]).run Tryz.prog w1 = .ok (.slice A' (n + m) c') w' ∧ w'.ownsRow base e size (.slice A' (n + m) c') (n + m) (xs ++ news) ∧ w1.grownBy w' (Value.slice A n c).ownBlock ∧ Loc w1 (.slice A n c) (.slice A' (n + m) c') := by
  obtain ⟨i, z, ht, hi, hz, hs, hzs, hby, hsz⟩ := E
  have hbytes : (n + m) * i.bytes ≤ 140737488355328 := Nat.le_trans (Nat.mul_le_mul hn hby) (by decide)
  obtain ⟨v', w', hrun, ho, hg, hl⟩ := run_append_any (P := Tryz.prog) w1 base t ty e i z size i.bytes ht hi hz hs rfl hzs hsz (.slice A n c) n xs hown Bd A2 m c2 news hr h1 (by simp only [maxLen]; omega) hbytes hb
  obtain ⟨A', c', rfl⟩ := own_slice ho
  refine ⟨A', c', w', hrun, ho, hg, ?_⟩
  rcases hl with hl | hl
  · exact .inl hl
  · exact .inr (fun g e => by rw [hl] at e; injection e with e; omega)
section
variable {e t size : Nat} {ops : Array Oper} {rest : List Oper} {o : Oper} {a : Act} {Q : Exit → Act → World → Prop}
theorem app_l (E : ElT e t size) (hgd : o.guard = none) (s x : Operand) (ho : o.op = .call { callee := .builtin .append, args := #[s, x], argTypes := #[t, t] })
    (w1 : World) (base n c : Nat) (A : Option Addr) (xs : List Value) (Bd : Nat) (A2 : Option Addr) (m c2 : Nat) (news : List Value) (hs : a.eval s = .slice A n c) (hx : a.eval x = .slice A2 m c2)
    (hown : w1.ownsRow base e size (.slice A n c) n xs) (hr : Rd w1 Bd A2 m size news) (h1 : ∀ u ∈ news, u.oneCell' = true) (hn : n + m ≤ 100000000000) (hb : base ≤ w1.heap.size)
    (h : ∀ A' c' w', w'.ownsRow base e size (.slice A' (n + m) c') (n + m) (xs ++ news) → w1.grownBy w' (Value.slice A n c).ownBlock → Loc w1 (.slice A n c) (.slice A' (n + m) c') → wpList Tryz.prog ops Q rest (a.put o.dst (.slice A' (n + m) c')) w') :
    wpList Tryz.prog ops Q (o :: rest) a w1 := by
  obtain ⟨A', c', w', hrun, h2, h3, h4⟩ := run_app E o.type w1 base n c A xs hown Bd A2 m c2 news hr h1 hn hb
  refine wpList_plain hgd fun K hK => ?_
  unfold Oper.wp execOp
  simp only [ho, resolve, invoke, builtin, Sem.run_bind, Sem.run_pure, Result.andThen_ok, List.map_toArray, List.map_cons, List.map_nil, hs, hx, hrun]
  exact hK _ _ (h A' c' w' h2 h3 h4)
/-- one element, that has just been laid -/
theorem push_l (E : ElT e t size) (hgd : o.guard = none) (s x : Operand) (ho : o.op = .call { callee := .builtin .append, args := #[s, x], argTypes := #[t, t] })
    (w1 : World) (hsz : Nat) (hh : w1.heap.size = hsz) (base n c : Nat) (A : Option Addr) (xs : List Value) (news : Array Value) (hnl : news.size = size) (hs : a.eval s = .slice A n c) (hx : a.eval x = .slice (some ⟨hsz, 0, none⟩) 1 1)
    (hown : w1.ownsRow base e size (.slice A n c) n xs) (h1 : ∀ u ∈ news.toList, u.oneCell' = true) (hn : n ≤ 10000000000) (hb : base ≤ w1.heap.size)
    (h : ∀ A' c' w', w'.ownsRow base e size (.slice A' (n + 1) c') (n + 1) (xs ++ news.toList) → w1.grownBy w' (Value.slice A n c).ownBlock → Loc w1 (.slice A n c) (.slice A' (n + 1) c') → wpList Tryz.prog ops Q rest (a.put o.dst (.slice A' (n + 1) c')) w') :
    wpList Tryz.prog ops Q (o :: rest) a (w1.alloc (.cells news e)) := by
  subst hh
  refine app_l E hgd s x ho _ base n c A xs (w1.heap.size + 1) (some ⟨w1.heap.size, 0, none⟩) 1 1 news.toList hs hx (hown.alloc _) (Rd.newAt _ _ rfl news e 1 size (by omega)) h1 (by omega) (by simp; omega) ?_
  intro A' c' w' h2 h3 h4
  refine h A' c' w' h2 ⟨h3.os, h3.tape, h3.output, Nat.le_trans (by simp) h3.size, fun i hi hne => ?_⟩ (h4.imp id fun h5 g hg => by have := h5 g hg; simp at this; omega)
  exact (h3.block i (by simp; omega) hne).trans (Below.heap_alloc _ _ _ hi)
/-- .. in a region that draws its order -/
theorem app_r {K : Act → World → Prop} {E0 : Prop} (E : ElT e t size) (hgd : o.guard = none) (s x : Operand) (ho : o.op = .call { callee := .builtin .append, args := #[s, x], argTypes := #[t, t] })
    (w1 : World) (base n c : Nat) (A : Option Addr) (xs : List Value) (Bd : Nat) (A2 : Option Addr) (m c2 : Nat) (news : List Value) (hs : a.eval s = .slice A n c) (hx : a.eval x = .slice A2 m c2)
    (hown : w1.ownsRow base e size (.slice A n c) n xs) (hr : Rd w1 Bd A2 m size news) (h1 : ∀ u ∈ news, u.oneCell' = true) (hn : n + m ≤ 100000000000) (hb : base ≤ w1.heap.size)
    (h : ∀ A' c' w', w'.ownsRow base e size (.slice A' (n + m) c') (n + m) (xs ++ news) → w1.grownBy w' (Value.slice A n c).ownBlock → Loc w1 (.slice A n c) (.slice A' (n + m) c') → K (a.put o.dst (.slice A' (n + m) c')) w') :
    if Region.wanted o (yielded ops a.tmps) = true then Oper.wp Tryz.prog o a w1 K Q else E0 := by
  obtain ⟨A', c', w', hrun, h2, h3, h4⟩ := run_app E o.type w1 base n c A xs hown Bd A2 m c2 news hr h1 hn hb
  have hw : Region.wanted o (yielded ops a.tmps) = true := by simp [Region.wanted, hgd]
  rw [if_pos hw]
  unfold Oper.wp execOp
  simp only [ho, resolve, invoke, builtin, Sem.run_bind, Sem.run_pure, Result.andThen_ok, List.map_toArray, List.map_cons, List.map_nil, hs, hx, hrun]
  exact h A' c' w' h2 h3 h4
theorem push_r {K : Act → World → Prop} {E0 : Prop} (E : ElT e t size) (hgd : o.guard = none) (s x : Operand) (ho : o.op = .call { callee := .builtin .append, args := #[s, x], argTypes := #[t, t] })
    (w1 : World) (hsz : Nat) (hh : w1.heap.size = hsz) (base n c : Nat) (A : Option Addr) (xs : List Value) (news : Array Value) (hnl : news.size = size) (hs : a.eval s = .slice A n c) (hx : a.eval x = .slice (some ⟨hsz, 0, none⟩) 1 1)
    (hown : w1.ownsRow base e size (.slice A n c) n xs) (h1 : ∀ u ∈ news.toList, u.oneCell' = true) (hn : n ≤ 10000000000) (hb : base ≤ w1.heap.size)
    (h : ∀ A' c' w', w'.ownsRow base e size (.slice A' (n + 1) c') (n + 1) (xs ++ news.toList) → w1.grownBy w' (Value.slice A n c).ownBlock → Loc w1 (.slice A n c) (.slice A' (n + 1) c') → K (a.put o.dst (.slice A' (n + 1) c')) w') :
    if Region.wanted o (yielded ops a.tmps) = true then Oper.wp Tryz.prog o a (w1.alloc (.cells news e)) K Q else E0 := by
  subst hh
  refine app_r E hgd s x ho _ base n c A xs (w1.heap.size + 1) (some ⟨w1.heap.size, 0, none⟩) 1 1 news.toList hs hx (hown.alloc _) (Rd.newAt _ _ rfl news e 1 size (by omega)) h1 (by omega) (by simp; omega) ?_
  intro A' c' w' h2 h3 h4
  refine h A' c' w' h2 ⟨h3.os, h3.tape, h3.output, Nat.le_trans (by simp) h3.size, fun i hi hne => ?_⟩ (h4.imp id fun h5 g hg => by have := h5 g hg; simp at this; omega)
  exact (h3.block i (by simp; omega) hne).trans (Below.heap_alloc _ _ _ hi)
end
end Go.Proofs.YtkijckccfookeaaGreatDoor
/- parse: numbers, instructions, points, calls of a statement's words. -/
namespace Go.Proofs.YtkijckccfookeaaGreatDoor
open Go.RowKit

/-- between two rounds: a row of the call's own, the reader -/
def RRow (e size : Nat) (w : World) (rb p : Nat) (err : Int) (n : Nat) (xs : List Value) (v : Value) (wr : World) : Prop :=
  ∃ A c, v = .slice A n c ∧ wr.ownsRow w.heap.size e size (.slice A n c) n xs ∧ Rdr wr rb p err ∧ w.grownBy wr (some rb)
/-- what comes back -/
def RetR (e size : Nat) (w : World) (rb p : Nat) (err : Int) (n : Nat) (xs : List Value) (en : Ending) (w' : World) : Prop := ∃ v, en = .returned v ∧ RRow e size w rb p err n xs v w'
theorem RRow.start {e size : Nat} {w w1 : World} {rb p : Nat} {err : Int} (h : Rdr w1 rb p err) (hg : w.grownBy w1 (some rb)) : RRow e size w rb p err 0 [] (.slice none 0 0) w1 :=
  ⟨none, 0, rfl, World.ownsRow_nil _ _ _ _, h, hg⟩
theorem own_ne_bk {w : World} {base e size n g : Nat} {v : Value} {xs : List Value} {t : TypeId} {cs : Array Value} (h : w.ownsRow base e size v n xs) (hb : Bk w g t cs) (hne : t ≠ e) : v.ownBlock = none ∨ v.ownBlock ≠ some g := by
  cases hv : v.ownBlock with
  | none => exact .inl rfl
  | some k =>
    refine .inr (fun e' => ?_)
    injection e' with e'
    subst e'
    obtain ⟨cur, hk⟩ := ownBlock_bk h hv
    exact hne (bk_one hb hk).1
/-- the reader reads on; then the row grows -/
theorem RRow.next {e size : Nat} {w wr w1 w2 : World} {rb p : Nat} {err err' : Int} {n n' : Nat} {xs xs' : List Value} {A A2 : Option Addr} {c c2 : Nat} (h1 : wr.ownsRow w.heap.size e size (.slice A n c) n xs) (h2 : Rdr wr rb p err) (h3 : w.grownBy wr (some rb))
    (hr : Rdr w1 rb p err') (hg : wr.grownBy w1 (some rb)) (ho : w2.ownsRow w.heap.size e size (.slice A2 n' c2) n' xs') (hg2 : w1.grownBy w2 (Value.slice A n c).ownBlock) (hne : tRdr ≠ e) : RRow e size w rb p err' n' xs' (.slice A2 n' c2) w2 := by
  have ho1 := h1.kept hg (own_ne_bk h1 h2 hne)
  exact ⟨A2, c2, rfl, ho, Bk.grown hr hg2 ho1 hne, grown_new (grown_tr h3 hg) hg2 (fun g e => (h1.lt g e).1)⟩
theorem rdT_rdr {w w' : World} {rb p : Nat} {err : Int} {A : Option Addr} {n : Nat} {cs : List Value} (h : RdT w 124 A n 3 cs) (hr : Rdr w rb p err) (hg : w.grownBy w' (some rb)) : RdT w' 124 A n 3 cs :=
  h.grown hg (fun g e => by cases e; exact ⟨_, _, hr, by decide⟩)
/-- a word, where it lies -/
theorem word_at {w wr : World} {rb p : Nat} {err : Int} {A : Option Addr} {n k : Nat} {ws : List P3} (hw : RdT w 124 A n 3 (c3s ws)) (hr : Rdr w rb p err) (hg : w.grownBy wr (some rb)) (hk : k < n) :
    ∃ b o x y z, A = some ⟨b, o, none⟩ ∧ Hid (ws[k]? = some (x, y, z)) ∧ wr.cell? ⟨b, o + k * 3, none⟩ = some (.int .i64 x) ∧ wr.cell? ⟨b, o + k * 3 + 1, none⟩ = some (.int .i64 y) ∧ wr.cell? ⟨b, o + k * 3 + 2, none⟩ = some (.string ⟨z.toArray⟩) := by
  obtain ⟨b, o, x, y, z, e, -, hp, q1, q2, q3⟩ := (rdT_rdr hw hr hg).rd.at3 hk
  exact ⟨b, o, x, y, z, e, hp, q1, q2, q3⟩
def txts (ws : List P3) : List B := ws.map (·.2.2)
theorem txts_len (ws : List P3) : (txts ws).length = ws.length := by simp [txts]
theorem txts_snoc {ws : List P3} {k : Nat} {x y : Int} {z : B} (h : ws[k]? = some (x, y, z)) : (txts ws).take (k + 1) = (txts ws).take k ++ [z] := by
  obtain ⟨hk, hg⟩ := List.getElem?_eq_some_iff.1 h
  rw [List.take_succ_eq_append_getElem (by rw [txts_len]; exact hk)]
  simp [txts, hg]
theorem Rdr.alloc {w : World} {rb p : Nat} {err : Int} (h : Rdr w rb p err) (o : Obj) : Rdr (w.alloc o) rb p err := Bk.alloc h o
theorem nums_snoc {l m : List B} {z : B} (h : m = l ++ [z]) : cIs (m.map numV) = cIs (l.map numV) ++ [.int .i64 (numV z)] := by subst h; simp [cIs, cI]
theorem eNums_snoc {l m : List B} {z : B} (err : Int) (h : m = l ++ [z]) : eNums err m = eNum (eNums err l) z := by subst h; simp [eNums]
set_option maxRecDepth 100000 in
set_option maxHeartbeats 2000000 in
theorem numbers_ok (w : World) (rb p : Nat) (err : Int) (A : Option Addr) (n c : Nat) (ws : List P3) (hR : Rdr w rb p err) (hw : RdT w 124 A n 3 (c3s ws)) (hl : ∀ x ∈ ws, x.2.2.length ≤ 1000000) (hn : n ≤ 1000000000) :
    Calls Tryz.prog 124 #[.pointer (some ⟨rb, 0, none⟩), .slice A n c] w (RetR 3 1 w rb p (eNums err (txts ws)) n (cIs ((txts ws).map numV))) := by
  have hwl := Lib.hid hw.rd.len3
  have HR := Lib.hid hR
  have HW := Lib.hid hw
  have HL := Lib.hid hl
  clear hR hw hl
  go_enter Tryz.func124, Tryz.ntmps124
  go_wp2
  go_loopw [5, 10] (fun v i wr => ∃ k : Nat, k ≤ n ∧ i = .int .i64 k ∧ RRow 3 1 w rb p (eNums err ((txts ws).take k)) k (cIs (((txts ws).take k).map numV)) v wr) (fun _ i _ => n - (intOf i).toNat)
  case atStart => exact ⟨0, Nat.zero_le _, rfl, RRow.start HR.out (World.grownBy.refl _ _)⟩
  case round =>
    obtain ⟨k, hk, rfl, A4, c4, rfl, ho, hr, hg⟩ := hrel
    by_cases hlt : k < n
    · obtain ⟨b, o, x, y, z, rfl, hp, q1, q2, q3⟩ := word_at HW.out HR.out hg hlt
      have hz : z.length ≤ 1000000 := HL.out _ (c3s_word hp.out)
      have hs := txts_snoc hp.out
      have hs1 := Lib.hid (nums_snoc hs)
      have hs2 := Lib.hid (eNums_snoc err hs)
      have hr0 := Lib.hid hr
      have hn1 := Lib.hid (number_ok _ rb p _ z (hr.alloc (.cells #[.int .i64 x, .int .i64 y, .string ⟨z.toArray⟩] 124)) hz)
      have hg0 : wr.grownBy (wr.alloc (.cells #[.int .i64 x, .int .i64 y, .string ⟨z.toArray⟩] 124)) (some rb) := World.grownBy_alloc _ _ _
      have hsz := hg.size
      generalize cIs (((txts ws).take k).map numV) = xs at *
      clear hp hs hz hr
      go_wp2_with (first
        | (go_at_call 122; refine hn1.out.mono ?_; rintro e w1 ⟨rfl, hr1, hg1⟩; have hg2 := grown_tr hg0 hg1; have z1 := hg2.size)
        | (at_builtin; refine push_l elInt rfl (.tmp 14) (.tmp 19) rfl w1 _ rfl w.heap.size k c4 A4 xs #[.int .i64 (numV z)] rfl rfl rfl (ho.kept hg2 (own_ne_bk ho hr0.out (by decide))) (by simp [Value.oneCell']) (by omega) (by omega) ?_; intro A5 c5 w2 ho2 hg3 _))
      go_roundw
      case rel => exact ⟨k + 1, by omega, by simp, by rw [hs1.out, hs2.out]; exact RRow.next ho hr0.out hg hr1 hg2 ho2 hg3 (by decide)⟩
      case measure => simp [intOf]; omega
    · obtain rfl : k = n := by omega
      have ht : Hid ((txts ws).take k = txts ws) := by show _ = _; exact List.take_of_length_le (by rw [txts_len, hwl.out]; exact Nat.le_refl _)
      rw [ht.out] at ho hr
      go_wp2
      go_ret
      exact ⟨_, rfl, A4, c4, rfl, ho, hr, hg⟩
end Go.Proofs.YtkijckccfookeaaGreatDoor
