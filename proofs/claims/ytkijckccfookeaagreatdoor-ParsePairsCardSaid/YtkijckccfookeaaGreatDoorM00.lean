/- Memory words for the words seat: a slice that reads as a list of cells; how lists of numbers and points lie in cells. Plain facts, no program. -/
import Derived.WalkKit
import Derived.Deep.AppendLies
import Derived.Deep.Draws
import Derived.Maps.AppendAt
import Derived.Lib.Hide
import Derived.RegionTactic
import Derived.OwnWalk
import Derived.RangeFuncBox
namespace Go.Proofs.YtkijckccfookeaaGreatDoor
open Go.RowKit

/-- the slice header A, of n elements of 'size' cells, reads as cs, below block B -/
def Rd (w : World) (B : Nat) (A : Option Addr) (n size : Nat) (cs : List Value) : Prop :=
  cs.length = n * size ∧ (0 < n → ∃ b o, A = some ⟨b, o, none⟩ ∧ b < B ∧ ∀ j u, cs[j]? = some u → w.cell? ⟨b, o + j, none⟩ = some u)

section
variable {w w' : World} {B B' size n : Nat} {A : Option Addr} {cs : List Value}
theorem Rd.nil (w : World) (B size : Nat) (A : Option Addr) : Rd w B A 0 size [] := ⟨by simp, fun h => absurd h (by omega)⟩
theorem Rd.keep (h : Rd w B A n size cs) (hk : ∀ b, b < B → w'.heap[b]? = w.heap[b]?) : Rd w' B A n size cs :=
  ⟨h.1, fun hn => by
    obtain ⟨b, o, e, hb, hc⟩ := h.2 hn
    exact ⟨b, o, e, hb, fun j u hu => (World.cell?_of_block (a := ⟨b, o + j, none⟩) (hk _ hb)).trans (hc j u hu)⟩⟩
theorem Rd.mono (h : Rd w B A n size cs) (hB : B ≤ B') : Rd w B' A n size cs :=
  ⟨h.1, fun hn => by obtain ⟨b, o, e, hb, hc⟩ := h.2 hn; exact ⟨b, o, e, by omega, hc⟩⟩
theorem Rd.below {C : Nat} (h : Rd w B A n size cs) (hb : Below C w w') (hC : B ≤ C) : Rd w' B A n size cs := h.keep fun b hb' => hb.block b (by omega)
theorem Rd.drewN (h : Rd w B A n size cs) (k : Nat) : Rd (w.drewN k) B A n size cs := h
theorem Rd.drew (h : Rd w B A n size cs) : Rd w.drew B A n size cs := h
theorem Rd.alloc (h : Rd w B A n size cs) (hB : B ≤ w.heap.size) (o : Obj) : Rd (w.alloc o) B A n size cs := h.keep fun b hb => Below.heap_alloc w o b (by omega)
theorem Rd.setCell (h : Rd w B A n size cs) {p : Addr} (hB : B ≤ p.block) (u : Value) : Rd (w.setCell p u) B A n size cs := h.keep fun b hb => Below.heap_setCell w p u b (by omega)
theorem Rd.grown (h : Rd w B A n size cs) {row : Option Nat} (hg : w.grownBy w' row) (hB : B ≤ w.heap.size) (hr : ∀ g, row = some g → B ≤ g) : Rd w' B A n size cs :=
  h.keep fun b hb => hg.block b (by omega) (fun e => by have := hr _ e.symm; omega)
theorem Rd.of_own {base : Nat} {e : TypeId} {v : Value} (h : w.ownsRow base e size v n cs) : ∃ A c, v = .slice A n c ∧ Rd w w.heap.size A n size cs := by
  rcases h.2 with ⟨rfl, rfl⟩ | ⟨g, cap, cur, rfl, hb, hg, hnc, hcm, hcs, htake⟩
  · refine ⟨none, 0, rfl, h.1, fun h => absurd h (by omega)⟩
  · refine ⟨some ⟨g, 0, none⟩, cap, rfl, h.1, fun hn => ⟨g, 0, rfl, (Array.getElem?_eq_some_iff.1 hg).1, fun j u hu => ?_⟩⟩
    have := h.cells (g := g) rfl j u hu
    by_cases hj : j = 0
    · subst hj; simpa [Addr.add] using this
    · simpa [Addr.add, hj] using this
end

theorem below_drewN {B : Nat} {a w : World} (h : Below B a w) (n : Nat) : Below B a (w.drewN n) := ⟨h.os, h.tape, h.output, h.size, h.block⟩
theorem bcell {W w1 : World} (hb : Below W.heap.size W w1) : (∀ b o, b < W.heap.size → w1.cell? ⟨b, o, none⟩ = W.cell? ⟨b, o, none⟩) ∧ (∀ b o, b < W.heap.size → w1.frozen? ⟨b, o, none⟩ = W.frozen? ⟨b, o, none⟩) :=
  ⟨fun b o h => hb.cell (p := ⟨b, o, none⟩) h, fun b o h => hb.frozen (p := ⟨b, o, none⟩) h⟩
theorem addr_add (b o j : Nat) : (⟨b, o, none⟩ : Addr).add j = ⟨b, o + j, none⟩ := by
  unfold Addr.add
  by_cases hj : j = 0 <;> simp [hj]

section
variable {P : Program} (w : World)
theorem run_append_of_nil (base : Nat) (t ty e : TypeId) (i : TypeInfo) (size : Nat) (ht : P.underlying t = some (.slice e)) (hi : P.info? e = some i)
    (v : Value) (n : Nat) (xs : List Value) (hown : w.ownsRow base e size v n xs) (c : Nat) : (Builtin.append_ #[t, t] ty #[v, .slice none 0 c]).run P w = .ok v w := by
  rcases hown.2 with ⟨rfl, rfl⟩ | ⟨g, cap, cur, rfl, _, _, hnc, _⟩
  · simp [Builtin.append_, run_underlying ht, sizeOf, typeInfo, hi, Builtin.lenOf, Builtin.firstCells]
  · simp [Builtin.append_, run_underlying ht, sizeOf, typeInfo, hi, Builtin.lenOf, Builtin.firstCells, hnc, storeCells]

/-- append of a slice that reads as news (nil, empty or not) onto a row of the call's own -/
theorem run_append_any (base : Nat) (t ty e : TypeId) (i : TypeInfo) (z : Value) (size bytes : Nat) (ht : P.underlying t = some (.slice e)) (hi : P.info? e = some i) (hz : i.zero = some z)
    (hsize : i.size = size) (hby : i.bytes = bytes) (hzs : z.cells.size = size) (hsz : 0 < size)
    (v : Value) (n : Nat) (xs : List Value) (hown : w.ownsRow base e size v n xs)
    (B : Nat) (A : Option Addr) (m c : Nat) (news : List Value) (hr : Rd w B A m size news) (h1 : ∀ u ∈ news, u.oneCell' = true)
    (h63 : n + m ≤ maxLen) (hbytes : (n + m) * bytes ≤ 140737488355328) (hbase : base ≤ w.heap.size) :
    ∃ v' w', (Builtin.append_ #[t, t] ty #[v, .slice A m c]).run P w = .ok v' w' ∧ w'.ownsRow base e size v' (n + m) (xs ++ news) ∧ w.grownBy w' v.ownBlock ∧
      (v'.ownBlock = v.ownBlock ∨ v'.ownBlock = some w.heap.size) := by
  rcases A with _ | ad
  · have hm : m = 0 := by
      rcases Nat.eq_zero_or_pos m with h0 | h0
      · exact h0
      · obtain ⟨b, o, h, _⟩ := hr.2 h0
        cases h
    subst hm
    have hn : news = [] := List.eq_nil_of_length_eq_zero (by simpa using hr.1)
    subst hn
    exact ⟨v, w, run_append_of_nil w base t ty e i size ht hi v n xs hown c, by simpa using hown, World.grownBy.refl w _, .inl rfl⟩
  · have hcells : ∀ j u, news[j]? = some u → w.cell? (ad.add j) = some u := by
      intro j u hu
      rcases Nat.eq_zero_or_pos m with h0 | h0
      · subst h0
        have hn : news = [] := List.eq_nil_of_length_eq_zero (by simpa using hr.1)
        subst hn
        simp at hu
      · obtain ⟨b, o, h, _, hc⟩ := hr.2 h0
        injection h with h
        subst h
        rw [addr_add]
        exact hc j u hu
    obtain ⟨v', w', hrun, h2, h3, _, h5⟩ := run_append_own_at (P := P) w base t ty e i z size bytes ht hi hz hsize hby hzs hsz v n xs hown ad m c news hr.1 hcells h1 h63 hbytes hbase
    exact ⟨v', w', hrun, h2, h3, h5⟩

theorem wp_append_any {o : Oper} {a : Act} {K : Act → World → Prop} {Q : Exit → Act → World → Prop} (s x : Operand) (t : TypeId)
    (ho : o.op = .call { callee := .builtin .append, args := #[s, x], argTypes := #[t, t] })
    (base : Nat) (e : TypeId) (i : TypeInfo) (z : Value) (size bytes : Nat) (ht : P.underlying t = some (.slice e)) (hi : P.info? e = some i) (hz : i.zero = some z)
    (hsize : i.size = size) (hby : i.bytes = bytes) (hzs : z.cells.size = size) (hsz : 0 < size)
    (v : Value) (n : Nat) (xs : List Value) (hs : a.eval s = v) (hown : w.ownsRow base e size v n xs)
    (B : Nat) (A : Option Addr) (m c : Nat) (news : List Value) (hx : a.eval x = .slice A m c) (hr : Rd w B A m size news) (h1 : ∀ u ∈ news, u.oneCell' = true)
    (h63 : n + m ≤ maxLen) (hbytes : (n + m) * bytes ≤ 140737488355328) (hbase : base ≤ w.heap.size)
    (h : ∀ v' w', w'.ownsRow base e size v' (n + m) (xs ++ news) → w.grownBy w' v.ownBlock → (v'.ownBlock = v.ownBlock ∨ v'.ownBlock = some w.heap.size) → K (a.put o.dst v') w') : o.wp P a w K Q := by
  obtain ⟨v', w', hrun, h2, h3, h4⟩ := run_append_any (P := P) w base t o.type e i z size bytes ht hi hz hsize hby hzs hsz v n xs hown B A m c news hr h1 h63 hbytes hbase
  unfold Oper.wp execOp
  simp only [ho, resolve, invoke, builtin, Sem.run_bind, Sem.run_pure, Result.andThen_ok, List.map_toArray, List.map_cons, List.map_nil, hs, hx, hrun]
  exact h v' w' h2 h3 h4

theorem wpList_append_any {ops : Array Oper} {rest : List Oper} {o : Oper} {a : Act} {Q : Exit → Act → World → Prop} (hgd : o.guard = none) (s x : Operand) (t : TypeId)
    (ho : o.op = .call { callee := .builtin .append, args := #[s, x], argTypes := #[t, t] })
    (base : Nat) (e : TypeId) (i : TypeInfo) (z : Value) (size bytes : Nat) (ht : P.underlying t = some (.slice e)) (hi : P.info? e = some i) (hz : i.zero = some z)
    (hsize : i.size = size) (hby : i.bytes = bytes) (hzs : z.cells.size = size) (hsz : 0 < size)
    (v : Value) (n : Nat) (xs : List Value) (hs : a.eval s = v) (hown : w.ownsRow base e size v n xs)
    (B : Nat) (A : Option Addr) (m c : Nat) (news : List Value) (hx : a.eval x = .slice A m c) (hr : Rd w B A m size news) (h1 : ∀ u ∈ news, u.oneCell' = true)
    (h63 : n + m ≤ maxLen) (hbytes : (n + m) * bytes ≤ 140737488355328) (hbase : base ≤ w.heap.size)
    (h : ∀ v' w', w'.ownsRow base e size v' (n + m) (xs ++ news) → w.grownBy w' v.ownBlock → (v'.ownBlock = v.ownBlock ∨ v'.ownBlock = some w.heap.size) → wpList P ops Q rest (a.put o.dst v') w') : wpList P ops Q (o :: rest) a w :=
  wpList_plain hgd fun _ hK => wp_append_any w s x t ho base e i z size bytes ht hi hz hsize hby hzs hsz v n xs hs hown B A m c news hx hr h1 h63 hbytes hbase fun v' w' h2 h3 h4 => hK _ _ (h v' w' h2 h3 h4)

theorem step_append_any {ops : Array Oper} {o : Oper} {a : Act} {K : Act → World → Prop} {Q : Exit → Act → World → Prop} {E : Prop} (hgd : o.guard = none) (s x : Operand) (t : TypeId)
    (ho : o.op = .call { callee := .builtin .append, args := #[s, x], argTypes := #[t, t] })
    (base : Nat) (e : TypeId) (i : TypeInfo) (z : Value) (size bytes : Nat) (ht : P.underlying t = some (.slice e)) (hi : P.info? e = some i) (hz : i.zero = some z)
    (hsize : i.size = size) (hby : i.bytes = bytes) (hzs : z.cells.size = size) (hsz : 0 < size)
    (v : Value) (n : Nat) (xs : List Value) (hs : a.eval s = v) (hown : w.ownsRow base e size v n xs)
    (B : Nat) (A : Option Addr) (m c : Nat) (news : List Value) (hx : a.eval x = .slice A m c) (hr : Rd w B A m size news) (h1 : ∀ u ∈ news, u.oneCell' = true)
    (h63 : n + m ≤ maxLen) (hbytes : (n + m) * bytes ≤ 140737488355328) (hbase : base ≤ w.heap.size)
    (h : ∀ v' w', w'.ownsRow base e size v' (n + m) (xs ++ news) → w.grownBy w' v.ownBlock → (v'.ownBlock = v.ownBlock ∨ v'.ownBlock = some w.heap.size) → K (a.put o.dst v') w') :
    if Region.wanted o (yielded ops a.tmps) = true then Oper.wp P o a w K Q else E := by
  have hw : Region.wanted o (yielded ops a.tmps) = true := by simp [Region.wanted, hgd]
  rw [if_pos hw]
  exact wp_append_any w s x t ho base e i z size bytes ht hi hz hsize hby hzs hsz v n xs hs hown B A m c news hx hr h1 h63 hbytes hbase h
end

theorem own_below {w w' : World} {base : Nat} {e : TypeId} {size : Nat} {v : Value} {n : Nat} {xs : List Value} (h : w.ownsRow base e size v n xs) (hb : Below w.heap.size w w') : w'.ownsRow base e size v n xs :=
  h.kept (row := none) ⟨hb.os, hb.tape, hb.output, hb.size, fun k hk _ => hb.block k hk⟩ (by cases hv : v.ownBlock <;> simp)
theorem own_drewN {w : World} {base : Nat} {e : TypeId} {size : Nat} {v : Value} {n : Nat} {xs : List Value} (h : w.ownsRow base e size v n xs) (k : Nat) : (w.drewN k).ownsRow base e size v n xs := h

theorem only_drewN {a w : World} {row : Option Nat} (h : a.grownBy w row) (n : Nat) : a.grownBy (w.drewN n) row := ⟨h.os, h.tape, h.output, h.size, h.block⟩
theorem only_drew {a w : World} {row : Option Nat} (h : a.grownBy w row) : a.grownBy w.drew row := ⟨h.os, h.tape, h.output, h.size, h.block⟩
theorem only_alloc {a w : World} {row : Option Nat} (h : a.grownBy w row) (o : Obj) : a.grownBy (w.alloc o) row :=
  ⟨h.os, h.tape, h.output, Nat.le_trans h.size (by simp), fun i hi hne => (Below.heap_alloc w o i (Nat.lt_of_lt_of_le hi h.size)).trans (h.block i hi hne)⟩
theorem only_setCell {a w : World} {row : Option Nat} (h : a.grownBy w row) {p : Addr} (hp : row = some p.block ∨ a.heap.size ≤ p.block) (u : Value) : a.grownBy (w.setCell p u) row :=
  ⟨h.os, h.tape, h.output, by simpa [World.setCell] using h.size, fun i hi hne => (Below.heap_setCell w p u i (by
    rintro rfl
    rcases hp with hp | hp
    · exact hne hp.symm
    · omega)).trans (h.block i hi hne)⟩
theorem only_of_below {a w : World} (h : Below a.heap.size a w) (row : Option Nat) : a.grownBy w row := ⟨h.os, h.tape, h.output, h.size, fun i hi _ => h.block i hi⟩
theorem only_below {a b w : World} {row : Option Nat} (h : a.grownBy b row) (hb : Below b.heap.size b w) : a.grownBy w row :=
  ⟨hb.os.trans h.os, hb.tape.trans h.tape, hb.output.trans h.output, Nat.le_trans h.size hb.size, fun i hi hne => (hb.block i (Nat.lt_of_lt_of_le hi h.size)).trans (h.block i hi hne)⟩

theorem own_ne {w : World} {b b' : Nat} {e e' : TypeId} {s s' : Nat} {v v' : Value} {n n' : Nat} {xs xs' : List Value} (h : w.ownsRow b e s v n xs) (h' : w.ownsRow b' e' s' v' n' xs') (hne : e ≠ e') :
    v.ownBlock = none ∨ v.ownBlock ≠ v'.ownBlock := by
  rcases h.2 with ⟨rfl, _⟩ | ⟨g, cap, cur, rfl, _, hg, _⟩
  · exact .inl rfl
  · rcases h'.2 with ⟨rfl, _⟩ | ⟨g', cap', cur', rfl, _, hg', _⟩
    · exact .inr (by simp [Value.ownBlock])
    · refine .inr ?_
      simp only [Value.ownBlock, ne_eq, Option.some.injEq]
      rintro rfl
      rw [hg] at hg'
      injection hg' with hg'
      injection hg' with _ ht
      exact hne ht

abbrev P3 := Int × Int × List UInt8
abbrev P2 := Int × Int
def cI (z : Int) : Value := .int .i64 z
def c3 (p : P3) : List Value := [.int .i64 p.1, .int .i64 p.2.1, .string ⟨p.2.2.toArray⟩]
def c2 (p : P2) : List Value := [.int .i64 p.1, .int .i64 p.2]
def c3s (ps : List P3) : List Value := ps.flatMap c3
def c2s (ps : List P2) : List Value := ps.flatMap c2
def cIs (zs : List Int) : List Value := zs.map cI
def cBs (zs : List Bool) : List Value := zs.map Value.bool

theorem c3s_length (ps : List P3) : (c3s ps).length = ps.length * 3 := by
  induction ps with
  | nil => rfl
  | cons p ps ih => simp [c3s, c3] at ih ⊢; omega
theorem c2s_length (ps : List P2) : (c2s ps).length = ps.length * 2 := by
  induction ps with
  | nil => rfl
  | cons p ps ih => simp [c2s, c2] at ih ⊢; omega
theorem c3s_append (a b : List P3) : c3s (a ++ b) = c3s a ++ c3s b := by simp [c3s]
theorem c2s_append (a b : List P2) : c2s (a ++ b) = c2s a ++ c2s b := by simp [c2s]
theorem c3s_get (ps : List P3) (k : Nat) (p : P3) (h : ps[k]? = some p) :
    (c3s ps)[k * 3]? = some (.int .i64 p.1) ∧ (c3s ps)[k * 3 + 1]? = some (.int .i64 p.2.1) ∧ (c3s ps)[k * 3 + 2]? = some (.string ⟨p.2.2.toArray⟩) := by
  induction ps generalizing k with
  | nil => simp at h
  | cons q ps ih =>
    cases k with
    | zero => simp at h; subst h; simp [c3s, c3]
    | succ k =>
      have := ih k (by simpa using h)
      have e : c3s (q :: ps) = c3 q ++ c3s ps := rfl
      simp only [e]
      refine ⟨?_, ?_, ?_⟩ <;> rw [List.getElem?_append_right (by simp [c3]; omega)] <;> simp only [c3, List.length_cons, List.length_nil]
      · rw [show (k + 1) * 3 - (0 + 1 + 1 + 1) = k * 3 by omega]; exact this.1
      · rw [show (k + 1) * 3 + 1 - (0 + 1 + 1 + 1) = k * 3 + 1 by omega]; exact this.2.1
      · rw [show (k + 1) * 3 + 2 - (0 + 1 + 1 + 1) = k * 3 + 2 by omega]; exact this.2.2
theorem c2s_get (ps : List P2) (k : Nat) (p : P2) (h : ps[k]? = some p) :
    (c2s ps)[k * 2]? = some (.int .i64 p.1) ∧ (c2s ps)[k * 2 + 1]? = some (.int .i64 p.2) := by
  induction ps generalizing k with
  | nil => simp at h
  | cons q ps ih =>
    cases k with
    | zero => simp at h; subst h; simp [c2s, c2]
    | succ k =>
      have := ih k (by simpa using h)
      have e : c2s (q :: ps) = c2 q ++ c2s ps := rfl
      simp only [e]
      refine ⟨?_, ?_⟩ <;> rw [List.getElem?_append_right (by simp [c2]; omega)] <;> simp only [c2, List.length_cons, List.length_nil]
      · rw [show (k + 1) * 2 - (0 + 1 + 1) = k * 2 by omega]; exact this.1
      · rw [show (k + 1) * 2 + 1 - (0 + 1 + 1) = k * 2 + 1 by omega]; exact this.2
theorem one3 (ps : List P3) : ∀ u ∈ c3s ps, u.oneCell' = true := by
  intro u hu
  simp only [c3s, List.mem_flatMap] at hu
  obtain ⟨p, _, hp⟩ := hu
  simp only [c3, List.mem_cons, List.not_mem_nil, or_false] at hp
  rcases hp with rfl | rfl | rfl <;> rfl
theorem one2 (ps : List P2) : ∀ u ∈ c2s ps, u.oneCell' = true := by
  intro u hu
  simp only [c2s, List.mem_flatMap] at hu
  obtain ⟨p, _, hp⟩ := hu
  simp only [c2, List.mem_cons, List.not_mem_nil, or_false] at hp
  rcases hp with rfl | rfl <;> rfl
theorem oneI (zs : List Int) : ∀ u ∈ cIs zs, u.oneCell' = true := by
  intro u hu
  simp only [cIs, List.mem_map] at hu
  obtain ⟨p, _, rfl⟩ := hu
  rfl
theorem oneB (zs : List Bool) : ∀ u ∈ cBs zs, u.oneCell' = true := by
  intro u hu
  simp only [cBs, List.mem_map] at hu
  obtain ⟨p, _, rfl⟩ := hu
  rfl
theorem cIs_get (zs : List Int) (k : Nat) (z : Int) (h : zs[k]? = some z) : (cIs zs)[k]? = some (.int .i64 z) := by simp [cIs, h, cI]
theorem cBs_get (zs : List Bool) (k : Nat) (z : Bool) (h : zs[k]? = some z) : (cBs zs)[k]? = some (.bool z) := by simp [cBs, h]

section
variable {w : World} {B n : Nat} {A : Option Addr}
/-- an element of a slice of points -/
theorem Rd.at3 {ps : List P3} (h : Rd w B A n 3 (c3s ps)) {k : Nat} (hk : k < n) :
    ∃ b o x y z, A = some ⟨b, o, none⟩ ∧ b < B ∧ Hid (ps[k]? = some (x, y, z)) ∧ w.cell? ⟨b, o + k * 3, none⟩ = some (.int .i64 x) ∧
      w.cell? ⟨b, o + k * 3 + 1, none⟩ = some (.int .i64 y) ∧ w.cell? ⟨b, o + k * 3 + 2, none⟩ = some (.string ⟨z.toArray⟩) := by
  obtain ⟨b, o, e, hb, hc⟩ := h.2 (by omega)
  have hl := h.1
  rw [c3s_length] at hl
  have hp : ps[k]? = some (ps[k]'(by omega)) := List.getElem?_eq_getElem (by omega)
  obtain ⟨h1, h2, h3⟩ := c3s_get ps k _ hp
  exact ⟨b, o, _, _, _, e, hb, hp, hc _ _ h1, hc _ _ h2, hc _ _ h3⟩
theorem Rd.at2 {ps : List P2} (h : Rd w B A n 2 (c2s ps)) {k : Nat} (hk : k < n) :
    ∃ b o x y, A = some ⟨b, o, none⟩ ∧ b < B ∧ Hid (ps[k]? = some (x, y)) ∧ w.cell? ⟨b, o + k * 2, none⟩ = some (.int .i64 x) ∧
      w.cell? ⟨b, o + k * 2 + 1, none⟩ = some (.int .i64 y) := by
  obtain ⟨b, o, e, hb, hc⟩ := h.2 (by omega)
  have hl := h.1
  rw [c2s_length] at hl
  have hp : ps[k]? = some (ps[k]'(by omega)) := List.getElem?_eq_getElem (by omega)
  obtain ⟨h1, h2⟩ := c2s_get ps k _ hp
  exact ⟨b, o, _, _, e, hb, hp, hc _ _ h1, hc _ _ h2⟩
theorem Rd.atI {zs : List Int} (h : Rd w B A n 1 (cIs zs)) {k : Nat} (hk : k < n) :
    ∃ b o x, A = some ⟨b, o, none⟩ ∧ b < B ∧ Hid (zs[k]? = some x) ∧ w.cell? ⟨b, o + k, none⟩ = some (.int .i64 x) := by
  obtain ⟨b, o, e, hb, hc⟩ := h.2 (by omega)
  have hl := h.1
  simp [cIs] at hl
  have hp : zs[k]? = some (zs[k]'(by omega)) := List.getElem?_eq_getElem (by omega)
  exact ⟨b, o, _, e, hb, hp, hc _ _ (cIs_get zs k _ hp)⟩
theorem Rd.atB {zs : List Bool} (h : Rd w B A n 1 (cBs zs)) {k : Nat} (hk : k < n) :
    ∃ b o x, A = some ⟨b, o, none⟩ ∧ b < B ∧ Hid (zs[k]? = some x) ∧ w.cell? ⟨b, o + k, none⟩ = some (.bool x) := by
  obtain ⟨b, o, e, hb, hc⟩ := h.2 (by omega)
  have hl := h.1
  simp [cBs] at hl
  have hp : zs[k]? = some (zs[k]'(by omega)) := List.getElem?_eq_getElem (by omega)
  exact ⟨b, o, _, e, hb, hp, hc _ _ (cBs_get zs k _ hp)⟩
theorem Rd.len3 {ps : List P3} (h : Rd w B A n 3 (c3s ps)) : ps.length = n := by have := h.1; rw [c3s_length] at this; omega
theorem Rd.len2 {ps : List P2} (h : Rd w B A n 2 (c2s ps)) : ps.length = n := by have := h.1; rw [c2s_length] at this; omega
theorem Rd.lenI {zs : List Int} (h : Rd w B A n 1 (cIs zs)) : zs.length = n := by have := h.1; simp [cIs] at this; omega
theorem Rd.lenB {zs : List Bool} (h : Rd w B A n 1 (cBs zs)) : zs.length = n := by have := h.1; simp [cBs] at this; omega
end
end Go.Proofs.YtkijckccfookeaaGreatDoor
/- Memory words, part two: a block known whole, slices with the type of their block, rows of rows. Plain facts, no program. -/
namespace Go.Proofs.YtkijckccfookeaaGreatDoor
open Go.RowKit

def Bk (w : World) (g : Nat) (t : TypeId) (cs : Array Value) : Prop := w.heap[g]? = some (.cells cs t (0, 0))
theorem Bk.cell {w : World} {g : Nat} {t : TypeId} {cs : Array Value} (h : Bk w g t cs) (i : Nat) : w.cell? ⟨g, i, none⟩ = cs[i]? := by
  unfold Bk at h
  simp [World.cell?, h]
theorem Bk.frozen {w : World} {g : Nat} {t : TypeId} {cs : Array Value} (h : Bk w g t cs) (i : Nat) : w.frozen? ⟨g, i, none⟩ = false := by
  unfold Bk at h
  simp [World.frozen?, h]
theorem Bk.lt {w : World} {g : Nat} {t : TypeId} {cs : Array Value} (h : Bk w g t cs) : g < w.heap.size := (Array.getElem?_eq_some_iff.1 h).1
theorem Bk.alloc {w : World} {g : Nat} {t : TypeId} {cs : Array Value} (h : Bk w g t cs) (o : Obj) : Bk (w.alloc o) g t cs := (Below.heap_alloc w o g h.lt).trans h
theorem Bk.set {w : World} {g : Nat} {t : TypeId} {cs : Array Value} (h : Bk w g t cs) (i : Nat) (u : Value) : Bk (w.setCell ⟨g, i, none⟩ u) g t (cs.setIfInBounds i u) := by
  unfold Bk at h ⊢
  simp [World.setCell, Array.getElem?_modify, h]
theorem Bk.far {w : World} {g : Nat} {t : TypeId} {cs : Array Value} (h : Bk w g t cs) {p : Addr} (hp : g ≠ p.block) (u : Value) : Bk (w.setCell p u) g t cs := (Below.heap_setCell w p u g hp).trans h
theorem Bk.drew {w : World} {g : Nat} {t : TypeId} {cs : Array Value} (h : Bk w g t cs) : Bk w.drew g t cs := h
theorem Rd.new (w : World) (cs : Array Value) (t : TypeId) (n size : Nat) (h : cs.size = n * size) : Rd (w.alloc (.cells cs t)) (w.heap.size + 1) (some ⟨w.heap.size, 0, none⟩) n size cs.toList :=
  ⟨by simpa using h, fun _ => ⟨_, _, rfl, by omega, fun j u hu => by
    have h1 : (w.alloc (.cells cs t)).heap[w.heap.size]? = some (.cells cs t) := heap_alloc_new w _
    have := World.news_of_block h1 j u hu
    rwa [addr_add] at this⟩⟩
theorem Rd.newAt (w : World) (h : Nat) (hh : w.heap.size = h) (cs : Array Value) (t : TypeId) (n size : Nat) (hs : cs.size = n * size) : Rd (w.alloc (.cells cs t)) (h + 1) (some ⟨h, 0, none⟩) n size cs.toList := by
  subst hh
  exact Rd.new w cs t n size hs
/-- a slice that reads as cs, in a block of elements of type t -/
def RdT (w : World) (t : TypeId) (A : Option Addr) (n size : Nat) (cs : List Value) : Prop :=
  cs.length = n * size ∧ (0 < n → ∃ b o cur, A = some ⟨b, o, none⟩ ∧ Bk w b t cur ∧ ∀ j u, cs[j]? = some u → cur[o + j]? = some u)
theorem RdT.rd {w : World} {t : TypeId} {A : Option Addr} {n size : Nat} {cs : List Value} (h : RdT w t A n size cs) : Rd w w.heap.size A n size cs :=
  ⟨h.1, fun hn => by
    obtain ⟨b, o, cur, e, hb, hc⟩ := h.2 hn
    exact ⟨b, o, e, hb.lt, fun j u hu => by rw [hb.cell]; exact hc j u hu⟩⟩
theorem RdT.below {w w' : World} {t : TypeId} {A : Option Addr} {n size : Nat} {cs : List Value} (h : RdT w t A n size cs) (hb : Below w.heap.size w w') : RdT w' t A n size cs :=
  ⟨h.1, fun hn => by
    obtain ⟨b, o, cur, e, hb', hc⟩ := h.2 hn
    exact ⟨b, o, cur, e, (hb.block b hb'.lt).trans hb', hc⟩⟩
theorem RdT.grown {w w' : World} {t : TypeId} {A : Option Addr} {n size : Nat} {cs : List Value} {row : Option Nat} (h : RdT w t A n size cs) (hg : w.grownBy w' row) (hr : ∀ g, row = some g → ∃ cur t', Bk w g t' cur ∧ t ≠ t') : RdT w' t A n size cs :=
  ⟨h.1, fun hn => by
    obtain ⟨b, o, cur, e, hb', hc⟩ := h.2 hn
    refine ⟨b, o, cur, e, (hg.block b hb'.lt (fun e => ?_)).trans hb', hc⟩
    obtain ⟨cur', t', hk, hne⟩ := hr b e.symm
    have hb2 : w.heap[b]? = _ := hb'
    have hk2 : w.heap[b]? = _ := hk
    rw [hb2] at hk2
    injection hk2 with h1
    injection h1 with _ h2
    exact hne h2⟩
theorem own_bk {w : World} {base : Nat} {e : TypeId} {size : Nat} {v : Value} {n : Nat} {xs : List Value} (h : w.ownsRow base e size v n xs) : ∀ g, v.ownBlock = some g → ∃ cur, Bk w g e cur := by
  intro g hg
  rcases h.2 with ⟨rfl, _⟩ | ⟨g', cap, cur, rfl, _, hh, _⟩
  · simp [Value.ownBlock] at hg
  · simp only [Value.ownBlock, Option.some.injEq] at hg
    subst hg
    exact ⟨cur, hh⟩
theorem Bk.grown {w w' : World} {g : Nat} {t e : TypeId} {cs : Array Value} (h : Bk w g t cs) {v : Value} {base size n : Nat} {xs : List Value} (hg : w.grownBy w' v.ownBlock) (ho : w.ownsRow base e size v n xs) (hne : t ≠ e) : Bk w' g t cs :=
  (hg.block g h.lt (fun e' => by
    obtain ⟨cur, hk⟩ := own_bk ho g e'.symm
    have hb2 : w.heap[g]? = _ := h
    have hk2 : w.heap[g]? = _ := hk
    rw [hb2] at hk2
    injection hk2 with h1
    injection h1 with _ h2
    exact hne h2)).trans h
theorem Bk.new (w : World) (t : TypeId) (cs : Array Value) : Bk (w.alloc (.cells cs t)) w.heap.size t cs := heap_alloc_new w _

theorem RdT.other {w w' : World} {t : TypeId} {A : Option Addr} {n size : Nat} {cs : List Value} {row : Option Nat} (h : RdT w t A n size cs) (hg : w.grownBy w' row) (hr : ∀ r, row = some r → ∃ o : Obj, w.heap[r]? = some o ∧ o.isCells = false) : RdT w' t A n size cs :=
  ⟨h.1, fun hn => by
    obtain ⟨b, o, cur, e, hb', hc⟩ := h.2 hn
    refine ⟨b, o, cur, e, (hg.block b hb'.lt (fun e => ?_)).trans hb', hc⟩
    obtain ⟨o', ho, hc⟩ := hr b e.symm
    have hb2 : w.heap[b]? = _ := hb'
    rw [hb2] at ho
    cases ho
    cases hc⟩
theorem ownsRow_base {w : World} {b b' : Nat} {e : TypeId} {size : Nat} {v : Value} {n : Nat} {xs : List Value} (h : w.ownsRow b e size v n xs) (hb : b' ≤ b) : w.ownsRow b' e size v n xs :=
  ⟨h.1, h.2.imp id (fun ⟨g, cap, cur, h1, h2, h3⟩ => ⟨g, cap, cur, h1, by omega, h3⟩)⟩
theorem own_rdT {w : World} {base n size c : Nat} {e : TypeId} {A : Option Addr} {xs : List Value} (h : w.ownsRow base e size (.slice A n c) n xs) : RdT w e A n size xs := by
  refine ⟨h.1, fun hn => ?_⟩
  rcases h.2 with ⟨h1, _⟩ | ⟨g, cap, cur, h1, _, hh, _, _, _, htk⟩
  · simp only [Value.slice.injEq] at h1
    omega
  · simp only [Value.slice.injEq, true_and] at h1
    obtain ⟨rfl, rfl⟩ := h1
    refine ⟨g, 0, cur, rfl, hh, fun j u hu => ?_⟩
    rw [← htk, List.getElem?_take] at hu
    split at hu
    · rw [Nat.zero_add, ← Array.getElem?_toList]
      exact hu
    · cases hu
theorem own_cap {w : World} {base n size c : Nat} {e : TypeId} {A : Option Addr} {xs : List Value} (h : w.ownsRow base e size (.slice A n c) n xs) : n ≤ c := by
  rcases h.2 with ⟨h1, h2⟩ | ⟨g, cap, cur, h1, _, _, h3, _⟩
  · omega
  · simp only [Value.slice.injEq] at h1
    omega
def KeepT (T : Nat → Prop) (W W' : World) : Prop := ∀ b, T b → ∀ o, W.heap[b]? = some o → o.isCells = true → W'.heap[b]? = some o
theorem KeepT.refl (T : Nat → Prop) (W : World) : KeepT T W W := fun _ _ _ h _ => h
theorem KeepT.trans {T : Nat → Prop} {A B C : World} (h : KeepT T A B) (k : KeepT T B C) : KeepT T A C := fun b hb o ho hc => k b hb o (h b hb o ho hc) hc
theorem KeepT.put {T : Nat → Prop} (W : World) (l : Nat) (o o' : Obj) (h : W.heap[l]? = some o) (hc : o.isCells = false) : KeepT T W (W.putObj l o') := fun b _ q hq hqc => by
  have hne : l ≠ b := by
    rintro rfl
    rw [h] at hq
    injection hq with hq
    subst hq
    simp [hc] at hqc
  exact (World.putObj_heap_other (Ne.symm hne)).trans hq
theorem KeepT.below {T : Nat → Prop} {W W' : World} (h : Below W.heap.size W W') : KeepT T W W' := fun b _ o ho _ => (h.block b (Array.getElem?_eq_some_iff.1 ho).1).trans ho
theorem KeepT.cell {T : Nat → Prop} {W W' : World} (h : KeepT T W W') {p : Addr} (hp : T p.block) {v : Value} (hc : W.cell? p = some v) : W'.cell? p = some v := by
  unfold World.cell? at hc ⊢
  split at hc
  · rename_i c e f heq
    rw [h _ hp _ heq rfl]
    exact hc
  · cases hc
theorem KeepT.rd {T : Nat → Prop} {W W' : World} (h : KeepT T W W') {B : Nat} (hT : ∀ b, b < B → T b) {A : Option Addr} {n size : Nat} {cs : List Value} (hr : Rd W B A n size cs) : Rd W' B A n size cs :=
  ⟨hr.1, fun hn => by
    obtain ⟨b, o, e, hb, hc⟩ := hr.2 hn
    exact ⟨b, o, e, hb, fun j u hu => h.cell (p := ⟨b, o + j, none⟩) (hT b hb) (hc j u hu)⟩⟩

/-- rows of words: a slice of slices; t is the word's type -/
def RowsIn (t : TypeId) (w : World) (hs : List Value) (rows : List (List P3)) : Prop :=
  hs.length = rows.length ∧ ∀ (i : Nat) (r : List P3), rows[i]? = some r → ∃ A k c, hs[i]? = some (Value.slice A k c) ∧ RdT w t A k 3 (c3s r) ∧ k ≤ c
theorem RowsIn.nil (t : TypeId) (w : World) : RowsIn t w [] [] := ⟨rfl, fun i r h => by simp at h⟩
theorem RowsIn.kept {t : TypeId} {w w' : World} {hs : List Value} {rows : List (List P3)} (h : RowsIn t w hs rows) (hk : ∀ A k r, RdT w t A k 3 (c3s r) → RdT w' t A k 3 (c3s r)) : RowsIn t w' hs rows :=
  ⟨h.1, fun i r hi => by obtain ⟨A, k, c, h1, h2, h3⟩ := h.2 i r hi; exact ⟨A, k, c, h1, hk _ _ _ h2, h3⟩⟩
theorem RowsIn.snoc {t : TypeId} {w : World} {hs : List Value} {rows : List (List P3)} (h : RowsIn t w hs rows) {A : Option Addr} {k c : Nat} {r : List P3} (hr : RdT w t A k 3 (c3s r)) (hkc : k ≤ c) : RowsIn t w (hs ++ [.slice A k c]) (rows ++ [r]) := by
  refine ⟨by simp [h.1], fun i r' hi => ?_⟩
  by_cases hlt : i < rows.length
  · rw [List.getElem?_append_left hlt] at hi
    obtain ⟨A', k', c', h1, h2⟩ := h.2 i r' hi
    exact ⟨A', k', c', by rw [List.getElem?_append_left (by rw [h.1]; exact hlt)]; exact h1, h2⟩
  · have hi2 : i = rows.length := by
      have := (List.getElem?_eq_some_iff.1 hi).1
      simp at this
      omega
    subst hi2
    simp at hi
    subst hi
    exact ⟨A, k, c, by rw [← h.1]; simp, hr, hkc⟩
theorem RowsIn.below {t : TypeId} {w w' : World} {hs : List Value} {rows : List (List P3)} (h : RowsIn t w hs rows) (hb : Below w.heap.size w w') : RowsIn t w' hs rows := h.kept fun _ _ _ hr => hr.below hb
end Go.Proofs.YtkijckccfookeaaGreatDoor
