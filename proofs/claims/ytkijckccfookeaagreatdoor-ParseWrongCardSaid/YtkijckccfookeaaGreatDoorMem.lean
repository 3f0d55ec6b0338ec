/- Memory words for the words seat: a slice that reads as a list of cells; how lists of numbers and points lie in cells. Plain facts, no program. -/
import Derived.WalkKit
import Derived.Deep.AppendLies
import Derived.Deep.Draws
import Derived.Maps.AppendAt
import Derived.Lib.Hide
import Derived.RegionTactic
import Derived.OwnWalk
namespace Go.Proofs.YtkijckccfookeaaGreatDoor
open Go.RowKit

/-- the slice header A, of n elements of 'size' cells, reads as cs, below block B -/
def Rd (w : World) (B : Nat) (A : Option Addr) (n size : Nat) (cs : List Value) : Prop :=
  cs.length = n * size ∧ (0 < n → ∃ b o, A = some ⟨b, o, none⟩ ∧ b < B ∧ ∀ j u, cs[j]? = some u → w.cell? ⟨b, o + j, none⟩ = some u)

section
variable {w w' : World} {B B' size n : Nat} {A : Option Addr} {cs : List Value}
theorem Rd.nil (w : World) (B size : Nat) (A : Option Addr) : Rd w B A 0 size [] := ⟨by simp, fun h => absurd h (by omega)⟩
theorem Rd.keep (h : Rd w B A n size cs) (hk : ∀ b, b < B → w'.heap[b]? = w.heap[b]?) : Rd w' B A n size cs :=
  ⟨h.1, fun hn => by
    obtain ⟨b, o, e, hb, hc⟩ := h.2 hn
    exact ⟨b, o, e, hb, fun j u hu => (World.cell?_of_block (a := ⟨b, o + j, none⟩) (hk _ hb)).trans (hc j u hu)⟩⟩
theorem Rd.mono (h : Rd w B A n size cs) (hB : B ≤ B') : Rd w B' A n size cs :=
  ⟨h.1, fun hn => by obtain ⟨b, o, e, hb, hc⟩ := h.2 hn; exact ⟨b, o, e, by omega, hc⟩⟩
theorem Rd.below {C : Nat} (h : Rd w B A n size cs) (hb : Below C w w') (hC : B ≤ C) : Rd w' B A n size cs := h.keep fun b hb' => hb.block b (by omega)
theorem Rd.drewN (h : Rd w B A n size cs) (k : Nat) : Rd (w.drewN k) B A n size cs := h
theorem Rd.drew (h : Rd w B A n size cs) : Rd w.drew B A n size cs := h
theorem Rd.alloc (h : Rd w B A n size cs) (hB : B ≤ w.heap.size) (o : Obj) : Rd (w.alloc o) B A n size cs := h.keep fun b hb => Below.heap_alloc w o b (by omega)
theorem Rd.setCell (h : Rd w B A n size cs) {p : Addr} (hB : B ≤ p.block) (u : Value) : Rd (w.setCell p u) B A n size cs := h.keep fun b hb => Below.heap_setCell w p u b (by omega)
theorem Rd.grown (h : Rd w B A n size cs) {row : Option Nat} (hg : w.grownBy w' row) (hB : B ≤ w.heap.size) (hr : ∀ g, row = some g → B ≤ g) : Rd w' B A n size cs :=
  h.keep fun b hb => hg.block b (by omega) (fun e => by have := hr _ e.symm; omega)
theorem Rd.of_own {base : Nat} {e : TypeId} {v : Value} (h : w.ownsRow base e size v n cs) : ∃ A c, v = .slice A n c ∧ Rd w w.heap.size A n size cs := by
  rcases h.2 with ⟨rfl, rfl⟩ | ⟨g, cap, cur, rfl, hb, hg, hnc, hcm, hcs, htake⟩
  · refine ⟨none, 0, rfl, h.1, fun h => absurd h (by omega)⟩
  · refine ⟨some ⟨g, 0, none⟩, cap, rfl, h.1, fun hn => ⟨g, 0, rfl, (Array.getElem?_eq_some_iff.1 hg).1, fun j u hu => ?_⟩⟩
    have := h.cells (g := g) rfl j u hu
    by_cases hj : j = 0
    · subst hj; simpa [Addr.add] using this
    · simpa [Addr.add, hj] using this
end

theorem below_drewN {B : Nat} {a w : World} (h : Below B a w) (n : Nat) : Below B a (w.drewN n) := ⟨h.os, h.tape, h.output, h.size, h.block⟩
theorem bcell {W w1 : World} (hb : Below W.heap.size W w1) : (∀ b o, b < W.heap.size → w1.cell? ⟨b, o, none⟩ = W.cell? ⟨b, o, none⟩) ∧ (∀ b o, b < W.heap.size → w1.frozen? ⟨b, o, none⟩ = W.frozen? ⟨b, o, none⟩) :=
  ⟨fun b o h => hb.cell (p := ⟨b, o, none⟩) h, fun b o h => hb.frozen (p := ⟨b, o, none⟩) h⟩
theorem addr_add (b o j : Nat) : (⟨b, o, none⟩ : Addr).add j = ⟨b, o + j, none⟩ := by
  unfold Addr.add
  by_cases hj : j = 0 <;> simp [hj]

section
variable {P : Program} (w : World)
theorem run_append_of_nil (base : Nat) (t ty e : TypeId) (i : TypeInfo) (size : Nat) (ht : P.underlying t = some (.slice e)) (hi : P.info? e = some i)
    (v : Value) (n : Nat) (xs : List Value) (hown : w.ownsRow base e size v n xs) (c : Nat) : (Builtin.append_ #[t, t] ty #[v, .slice none 0 c]).run P w = .ok v w := by
  rcases hown.2 with ⟨rfl, rfl⟩ | ⟨g, cap, cur, rfl, _, _, hnc, _⟩
  · simp [Builtin.append_, run_underlying ht, sizeOf, typeInfo, hi, Builtin.lenOf, Builtin.firstCells]
  · simp [Builtin.append_, run_underlying ht, sizeOf, typeInfo, hi, Builtin.lenOf, Builtin.firstCells, hnc, storeCells]

/-- append of a slice that reads as news (nil, empty or not) onto a row of the call's own -/
theorem run_append_any (base : Nat) (t ty e : TypeId) (i : TypeInfo) (z : Value) (size bytes : Nat) (ht : P.underlying t = some (.slice e)) (hi : P.info? e = some i) (hz : i.zero = some z)
    (hsize : i.size = size) (hby : i.bytes = bytes) (hzs : z.cells.size = size) (hsz : 0 < size)
    (v : Value) (n : Nat) (xs : List Value) (hown : w.ownsRow base e size v n xs)
    (B : Nat) (A : Option Addr) (m c : Nat) (news : List Value) (hr : Rd w B A m size news) (h1 : ∀ u ∈ news, u.oneCell' = true)
    (h63 : n + m ≤ maxLen) (hbytes : (n + m) * bytes ≤ 140737488355328) (hbase : base ≤ w.heap.size) :
    ∃ v' w', (Builtin.append_ #[t, t] ty #[v, .slice A m c]).run P w = .ok v' w' ∧ w'.ownsRow base e size v' (n + m) (xs ++ news) ∧ w.grownBy w' v.ownBlock ∧
      (v'.ownBlock = v.ownBlock ∨ v'.ownBlock = some w.heap.size) := by
  rcases A with _ | ad
  · have hm : m = 0 := by
      rcases Nat.eq_zero_or_pos m with h0 | h0
      · exact h0
      · obtain ⟨b, o, h, _⟩ := hr.2 h0
        cases h
    subst hm
    have hn : news = [] := List.eq_nil_of_length_eq_zero (by simpa using hr.1)
    subst hn
    exact ⟨v, w, run_append_of_nil w base t ty e i size ht hi v n xs hown c, by simpa using hown, World.grownBy.refl w _, .inl rfl⟩
  · have hcells : ∀ j u, news[j]? = some u → w.cell? (ad.add j) = some u := by
      intro j u hu
      rcases Nat.eq_zero_or_pos m with h0 | h0
      · subst h0
        have hn : news = [] := List.eq_nil_of_length_eq_zero (by simpa using hr.1)
        subst hn
        simp at hu
      · obtain ⟨b, o, h, _, hc⟩ := hr.2 h0
        injection h with h
        subst h
        rw [addr_add]
        exact hc j u hu
    obtain ⟨v', w', hrun, h2, h3, _, h5⟩ := run_append_own_at (P := P) w base t ty e i z size bytes ht hi hz hsize hby hzs hsz v n xs hown ad m c news hr.1 hcells h1 h63 hbytes hbase
    exact ⟨v', w', hrun, h2, h3, h5⟩

theorem wp_append_any {o : Oper} {a : Act} {K : Act → World → Prop} {Q : Exit → Act → World → Prop} (s x : Operand) (t : TypeId)
    (ho : o.op = .call { callee := .builtin .append, args := #[s, x], argTypes := #[t, t] })
    (base : Nat) (e : TypeId) (i : TypeInfo) (z : Value) (size bytes : Nat) (ht : P.underlying t = some (.slice e)) (hi : P.info? e = some i) (hz : i.zero = some z)
    (hsize : i.size = size) (hby : i.bytes = bytes) (hzs : z.cells.size = size) (hsz : 0 < size)
    (v : Value) (n : Nat) (xs : List Value) (hs : a.eval s = v) (hown : w.ownsRow base e size v n xs)
    (B : Nat) (A : Option Addr) (m c : Nat) (news : List Value) (hx : a.eval x = .slice A m c) (hr : Rd w B A m size news) (h1 : ∀ u ∈ news, u.oneCell' = true)
    (h63 : n + m ≤ maxLen) (hbytes : (n + m) * bytes ≤ 140737488355328) (hbase : base ≤ w.heap.size)
    (h : ∀ v' w', w'.ownsRow base e size v' (n + m) (xs ++ news) → w.grownBy w' v.ownBlock → (v'.ownBlock = v.ownBlock ∨ v'.ownBlock = some w.heap.size) → K (a.put o.dst v') w') : o.wp P a w K Q := by
  obtain ⟨v', w', hrun, h2, h3, h4⟩ := run_append_any (P := P) w base t o.type e i z size bytes ht hi hz hsize hby hzs hsz v n xs hown B A m c news hr h1 h63 hbytes hbase
  unfold Oper.wp execOp
  simp only [ho, resolve, invoke, builtin, Sem.run_bind, Sem.run_pure, Result.andThen_ok, List.map_toArray, List.map_cons, List.map_nil, hs, hx, hrun]
  exact h v' w' h2 h3 h4

theorem wpList_append_any {ops : Array Oper} {rest : List Oper} {o : Oper} {a : Act} {Q : Exit → Act → World → Prop} (hgd : o.guard = none) (s x : Operand) (t : TypeId)
    (ho : o.op = .call { callee := .builtin .append, args := #[s, x], argTypes := #[t, t] })
    (base : Nat) (e : TypeId) (i : TypeInfo) (z : Value) (size bytes : Nat) (ht : P.underlying t = some (.slice e)) (hi : P.info? e = some i) (hz : i.zero = some z)
    (hsize : i.size = size) (hby : i.bytes = bytes) (hzs : z.cells.size = size) (hsz : 0 < size)
    (v : Value) (n : Nat) (xs : List Value) (hs : a.eval s = v) (hown : w.ownsRow base e size v n xs)
    (B : Nat) (A : Option Addr) (m c : Nat) (news : List Value) (hx : a.eval x = .slice A m c) (hr : Rd w B A m size news) (h1 : ∀ u ∈ news, u.oneCell' = true)
    (h63 : n + m ≤ maxLen) (hbytes : (n + m) * bytes ≤ 140737488355328) (hbase : base ≤ w.heap.size)
    (h : ∀ v' w', w'.ownsRow base e size v' (n + m) (xs ++ news) → w.grownBy w' v.ownBlock → (v'.ownBlock = v.ownBlock ∨ v'.ownBlock = some w.heap.size) → wpList P ops Q rest (a.put o.dst v') w') : wpList P ops Q (o :: rest) a w :=
  wpList_plain hgd fun _ hK => wp_append_any w s x t ho base e i z size bytes ht hi hz hsize hby hzs hsz v n xs hs hown B A m c news hx hr h1 h63 hbytes hbase fun v' w' h2 h3 h4 => hK _ _ (h v' w' h2 h3 h4)

theorem step_append_any {ops : Array Oper} {o : Oper} {a : Act} {K : Act → World → Prop} {Q : Exit → Act → World → Prop} {E : Prop} (hgd : o.guard = none) (s x : Operand) (t : TypeId)
    (ho : o.op = .call { callee := .builtin .append, args := #[s, x], argTypes := #[t, t] })
    (base : Nat) (e : TypeId) (i : TypeInfo) (z : Value) (size bytes : Nat) (ht : P.underlying t = some (.slice e)) (hi : P.info? e = some i) (hz : i.zero = some z)
    (hsize : i.size = size) (hby : i.bytes = bytes) (hzs : z.cells.size = size) (hsz : 0 < size)
    (v : Value) (n : Nat) (xs : List Value) (hs : a.eval s = v) (hown : w.ownsRow base e size v n xs)
    (B : Nat) (A : Option Addr) (m c : Nat) (news : List Value) (hx : a.eval x = .slice A m c) (hr : Rd w B A m size news) (h1 : ∀ u ∈ news, u.oneCell' = true)
    (h63 : n + m ≤ maxLen) (hbytes : (n + m) * bytes ≤ 140737488355328) (hbase : base ≤ w.heap.size)
    (h : ∀ v' w', w'.ownsRow base e size v' (n + m) (xs ++ news) → w.grownBy w' v.ownBlock → (v'.ownBlock = v.ownBlock ∨ v'.ownBlock = some w.heap.size) → K (a.put o.dst v') w') :
    if Region.wanted o (yielded ops a.tmps) = true then Oper.wp P o a w K Q else E := by
  have hw : Region.wanted o (yielded ops a.tmps) = true := by simp [Region.wanted, hgd]
  rw [if_pos hw]
  exact wp_append_any w s x t ho base e i z size bytes ht hi hz hsize hby hzs hsz v n xs hs hown B A m c news hx hr h1 h63 hbytes hbase h
end

theorem own_below {w w' : World} {base : Nat} {e : TypeId} {size : Nat} {v : Value} {n : Nat} {xs : List Value} (h : w.ownsRow base e size v n xs) (hb : Below w.heap.size w w') : w'.ownsRow base e size v n xs :=
  h.kept (row := none) ⟨hb.os, hb.tape, hb.output, hb.size, fun k hk _ => hb.block k hk⟩ (by cases hv : v.ownBlock <;> simp)
theorem own_drewN {w : World} {base : Nat} {e : TypeId} {size : Nat} {v : Value} {n : Nat} {xs : List Value} (h : w.ownsRow base e size v n xs) (k : Nat) : (w.drewN k).ownsRow base e size v n xs := h

theorem only_drewN {a w : World} {row : Option Nat} (h : a.grownBy w row) (n : Nat) : a.grownBy (w.drewN n) row := ⟨h.os, h.tape, h.output, h.size, h.block⟩
theorem only_drew {a w : World} {row : Option Nat} (h : a.grownBy w row) : a.grownBy w.drew row := ⟨h.os, h.tape, h.output, h.size, h.block⟩
theorem only_alloc {a w : World} {row : Option Nat} (h : a.grownBy w row) (o : Obj) : a.grownBy (w.alloc o) row :=
  ⟨h.os, h.tape, h.output, Nat.le_trans h.size (by simp), fun i hi hne => (Below.heap_alloc w o i (Nat.lt_of_lt_of_le hi h.size)).trans (h.block i hi hne)⟩
theorem only_setCell {a w : World} {row : Option Nat} (h : a.grownBy w row) {p : Addr} (hp : row = some p.block ∨ a.heap.size ≤ p.block) (u : Value) : a.grownBy (w.setCell p u) row :=
  ⟨h.os, h.tape, h.output, by simpa [World.setCell] using h.size, fun i hi hne => (Below.heap_setCell w p u i (by
    rintro rfl
    rcases hp with hp | hp
    · exact hne hp.symm
    · omega)).trans (h.block i hi hne)⟩
theorem only_of_below {a w : World} (h : Below a.heap.size a w) (row : Option Nat) : a.grownBy w row := ⟨h.os, h.tape, h.output, h.size, fun i hi _ => h.block i hi⟩
theorem only_below {a b w : World} {row : Option Nat} (h : a.grownBy b row) (hb : Below b.heap.size b w) : a.grownBy w row :=
  ⟨hb.os.trans h.os, hb.tape.trans h.tape, hb.output.trans h.output, Nat.le_trans h.size hb.size, fun i hi hne => (hb.block i (Nat.lt_of_lt_of_le hi h.size)).trans (h.block i hi hne)⟩

theorem own_ne {w : World} {b b' : Nat} {e e' : TypeId} {s s' : Nat} {v v' : Value} {n n' : Nat} {xs xs' : List Value} (h : w.ownsRow b e s v n xs) (h' : w.ownsRow b' e' s' v' n' xs') (hne : e ≠ e') :
    v.ownBlock = none ∨ v.ownBlock ≠ v'.ownBlock := by
  rcases h.2 with ⟨rfl, _⟩ | ⟨g, cap, cur, rfl, _, hg, _⟩
  · exact .inl rfl
  · rcases h'.2 with ⟨rfl, _⟩ | ⟨g', cap', cur', rfl, _, hg', _⟩
    · exact .inr (by simp [Value.ownBlock])
    · refine .inr ?_
      simp only [Value.ownBlock, ne_eq, Option.some.injEq]
      rintro rfl
      rw [hg] at hg'
      injection hg' with hg'
      injection hg' with _ ht
      exact hne ht

abbrev P3 := Int × Int × List UInt8
abbrev P2 := Int × Int
def cI (z : Int) : Value := .int .i64 z
def c3 (p : P3) : List Value := [.int .i64 p.1, .int .i64 p.2.1, .string ⟨p.2.2.toArray⟩]
def c2 (p : P2) : List Value := [.int .i64 p.1, .int .i64 p.2]
def c3s (ps : List P3) : List Value := ps.flatMap c3
def c2s (ps : List P2) : List Value := ps.flatMap c2
def cIs (zs : List Int) : List Value := zs.map cI
def cBs (zs : List Bool) : List Value := zs.map Value.bool

theorem c3s_length (ps : List P3) : (c3s ps).length = ps.length * 3 := by
  induction ps with
  | nil => rfl
  | cons p ps ih => simp [c3s, c3] at ih ⊢; omega
theorem c2s_length (ps : List P2) : (c2s ps).length = ps.length * 2 := by
  induction ps with
  | nil => rfl
  | cons p ps ih => simp [c2s, c2] at ih ⊢; omega
theorem c3s_append (a b : List P3) : c3s (a ++ b) = c3s a ++ c3s b := by simp [c3s]
theorem c2s_append (a b : List P2) : c2s (a ++ b) = c2s a ++ c2s b := by simp [c2s]
theorem c3s_get (ps : List P3) (k : Nat) (p : P3) (h : ps[k]? = some p) :
    (c3s ps)[k * 3]? = some (.int .i64 p.1) ∧ (c3s ps)[k * 3 + 1]? = some (.int .i64 p.2.1) ∧ (c3s ps)[k * 3 + 2]? = some (.string ⟨p.2.2.toArray⟩) := by
  induction ps generalizing k with
  | nil => simp at h
  | cons q ps ih =>
    cases k with
    | zero => simp at h; subst h; simp [c3s, c3]
    | succ k =>
      have := ih k (by simpa using h)
      have e : c3s (q :: ps) = c3 q ++ c3s ps := rfl
      simp only [e]
      refine ⟨?_, ?_, ?_⟩ <;> rw [List.getElem?_append_right (by simp [c3]; omega)] <;> simp only [c3, List.length_cons, List.length_nil]
      · rw [show (k + 1) * 3 - (0 + 1 + 1 + 1) = k * 3 by omega]; exact this.1
      · rw [show (k + 1) * 3 + 1 - (0 + 1 + 1 + 1) = k * 3 + 1 by omega]; exact this.2.1
      · rw [show (k + 1) * 3 + 2 - (0 + 1 + 1 + 1) = k * 3 + 2 by omega]; exact this.2.2
theorem c2s_get (ps : List P2) (k : Nat) (p : P2) (h : ps[k]? = some p) :
    (c2s ps)[k * 2]? = some (.int .i64 p.1) ∧ (c2s ps)[k * 2 + 1]? = some (.int .i64 p.2) := by
  induction ps generalizing k with
  | nil => simp at h
  | cons q ps ih =>
    cases k with
    | zero => simp at h; subst h; simp [c2s, c2]
    | succ k =>
      have := ih k (by simpa using h)
      have e : c2s (q :: ps) = c2 q ++ c2s ps := rfl
      simp only [e]
      refine ⟨?_, ?_⟩ <;> rw [List.getElem?_append_right (by simp [c2]; omega)] <;> simp only [c2, List.length_cons, List.length_nil]
      · rw [show (k + 1) * 2 - (0 + 1 + 1) = k * 2 by omega]; exact this.1
      · rw [show (k + 1) * 2 + 1 - (0 + 1 + 1) = k * 2 + 1 by omega]; exact this.2
theorem one3 (ps : List P3) : ∀ u ∈ c3s ps, u.oneCell' = true := by
  intro u hu
  simp only [c3s, List.mem_flatMap] at hu
  obtain ⟨p, _, hp⟩ := hu
  simp only [c3, List.mem_cons, List.not_mem_nil, or_false] at hp
  rcases hp with rfl | rfl | rfl <;> rfl
theorem one2 (ps : List P2) : ∀ u ∈ c2s ps, u.oneCell' = true := by
  intro u hu
  simp only [c2s, List.mem_flatMap] at hu
  obtain ⟨p, _, hp⟩ := hu
  simp only [c2, List.mem_cons, List.not_mem_nil, or_false] at hp
  rcases hp with rfl | rfl <;> rfl
theorem oneI (zs : List Int) : ∀ u ∈ cIs zs, u.oneCell' = true := by
  intro u hu
  simp only [cIs, List.mem_map] at hu
  obtain ⟨p, _, rfl⟩ := hu
  rfl
theorem oneB (zs : List Bool) : ∀ u ∈ cBs zs, u.oneCell' = true := by
  intro u hu
  simp only [cBs, List.mem_map] at hu
  obtain ⟨p, _, rfl⟩ := hu
  rfl
theorem cIs_get (zs : List Int) (k : Nat) (z : Int) (h : zs[k]? = some z) : (cIs zs)[k]? = some (.int .i64 z) := by simp [cIs, h, cI]
theorem cBs_get (zs : List Bool) (k : Nat) (z : Bool) (h : zs[k]? = some z) : (cBs zs)[k]? = some (.bool z) := by simp [cBs, h]

section
variable {w : World} {B n : Nat} {A : Option Addr}
/-- an element of a slice of points -/
theorem Rd.at3 {ps : List P3} (h : Rd w B A n 3 (c3s ps)) {k : Nat} (hk : k < n) :
    ∃ b o x y z, A = some ⟨b, o, none⟩ ∧ b < B ∧ Hid (ps[k]? = some (x, y, z)) ∧ w.cell? ⟨b, o + k * 3, none⟩ = some (.int .i64 x) ∧
      w.cell? ⟨b, o + k * 3 + 1, none⟩ = some (.int .i64 y) ∧ w.cell? ⟨b, o + k * 3 + 2, none⟩ = some (.string ⟨z.toArray⟩) := by
  obtain ⟨b, o, e, hb, hc⟩ := h.2 (by omega)
  have hl := h.1
  rw [c3s_length] at hl
  have hp : ps[k]? = some (ps[k]'(by omega)) := List.getElem?_eq_getElem (by omega)
  obtain ⟨h1, h2, h3⟩ := c3s_get ps k _ hp
  exact ⟨b, o, _, _, _, e, hb, hp, hc _ _ h1, hc _ _ h2, hc _ _ h3⟩
theorem Rd.at2 {ps : List P2} (h : Rd w B A n 2 (c2s ps)) {k : Nat} (hk : k < n) :
    ∃ b o x y, A = some ⟨b, o, none⟩ ∧ b < B ∧ Hid (ps[k]? = some (x, y)) ∧ w.cell? ⟨b, o + k * 2, none⟩ = some (.int .i64 x) ∧
      w.cell? ⟨b, o + k * 2 + 1, none⟩ = some (.int .i64 y) := by
  obtain ⟨b, o, e, hb, hc⟩ := h.2 (by omega)
  have hl := h.1
  rw [c2s_length] at hl
  have hp : ps[k]? = some (ps[k]'(by omega)) := List.getElem?_eq_getElem (by omega)
  obtain ⟨h1, h2⟩ := c2s_get ps k _ hp
  exact ⟨b, o, _, _, e, hb, hp, hc _ _ h1, hc _ _ h2⟩
theorem Rd.atI {zs : List Int} (h : Rd w B A n 1 (cIs zs)) {k : Nat} (hk : k < n) :
    ∃ b o x, A = some ⟨b, o, none⟩ ∧ b < B ∧ Hid (zs[k]? = some x) ∧ w.cell? ⟨b, o + k, none⟩ = some (.int .i64 x) := by
  obtain ⟨b, o, e, hb, hc⟩ := h.2 (by omega)
  have hl := h.1
  simp [cIs] at hl
  have hp : zs[k]? = some (zs[k]'(by omega)) := List.getElem?_eq_getElem (by omega)
  exact ⟨b, o, _, e, hb, hp, hc _ _ (cIs_get zs k _ hp)⟩
theorem Rd.atB {zs : List Bool} (h : Rd w B A n 1 (cBs zs)) {k : Nat} (hk : k < n) :
    ∃ b o x, A = some ⟨b, o, none⟩ ∧ b < B ∧ Hid (zs[k]? = some x) ∧ w.cell? ⟨b, o + k, none⟩ = some (.bool x) := by
  obtain ⟨b, o, e, hb, hc⟩ := h.2 (by omega)
  have hl := h.1
  simp [cBs] at hl
  have hp : zs[k]? = some (zs[k]'(by omega)) := List.getElem?_eq_getElem (by omega)
  exact ⟨b, o, _, e, hb, hp, hc _ _ (cBs_get zs k _ hp)⟩
theorem Rd.len3 {ps : List P3} (h : Rd w B A n 3 (c3s ps)) : ps.length = n := by have := h.1; rw [c3s_length] at this; omega
theorem Rd.len2 {ps : List P2} (h : Rd w B A n 2 (c2s ps)) : ps.length = n := by have := h.1; rw [c2s_length] at this; omega
theorem Rd.lenI {zs : List Int} (h : Rd w B A n 1 (cIs zs)) : zs.length = n := by have := h.1; simp [cIs] at this; omega
theorem Rd.lenB {zs : List Bool} (h : Rd w B A n 1 (cBs zs)) : zs.length = n := by have := h.1; simp [cBs] at this; omega
end
end Go.Proofs.YtkijckccfookeaaGreatDoor
