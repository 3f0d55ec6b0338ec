/- The maker of fonts (fleuronref07) in memory; what is new. Plain facts, no program. -/
import Derived.Test.YtkijckccfookeaaGreatDoorM11
import Derived.Test.YtkijckccfookeaaGreatDoorM42
import Derived.BigRegion
namespace Go.Proofs.YtkijckccfookeaaGreatDoor
open Go.RowKit

abbrev tMk : TypeId := 149
abbrev tInt : TypeId := 3
def mkV (A : Option Addr) (n c a : Nat) (fs : Nat → Value) (lp : Int) : Array Value := #[.slice A n c, .int .i64 a, fs 0, fs 1, fs 2, fs 3, fs 4, fs 5, fs 6, fs 7, fs 8, .int .i64 lp]
/-- the maker: some numbers, which is next, the font's cells, how many loops are left -/
def Mk (w : World) (m : Nat) (fs : Nat → Value) (lp : Int) : Prop :=
  ∃ A n c a zs, Bk w m tMk (mkV A n c a fs lp) ∧ a ≤ n ∧ n ≤ 1000000000 ∧ Rd w m A n 1 (cIs zs) ∧ ∀ z ∈ zs, I64 z
/-- all but the maker is as it was -/
abbrev Mv (m : Nat) (w w' : World) : Prop := w.grownBy w' (some m)
theorem grown_trans {a b c : World} {row : Option Nat} (h : a.grownBy b row) (k : b.grownBy c row) : a.grownBy c row :=
  ⟨k.os.trans h.os, k.tape.trans h.tape, k.output.trans h.output, Nat.le_trans h.size k.size, fun i hi hne => (k.block i (Nat.lt_of_lt_of_le hi h.size) hne).trans (h.block i hi hne)⟩
theorem below_grownM {a b c : World} {row : Option Nat} (h : Below a.heap.size a b) (k : b.grownBy c row) : a.grownBy c row := grown_trans (only_of_below h row) k
theorem grown_lowB {a b : World} {m Bd : Nat} (h : a.grownBy b (some m)) (hm : Bd ≤ m) (hB : Bd ≤ a.heap.size) : Below Bd a b :=
  ⟨h.os, h.tape, h.output, h.size, fun i hi => h.block i (by omega) (fun e => by injection e with e; omega)⟩
theorem Mk.lt {w : World} {m : Nat} {fs : Nat → Value} {lp : Int} (h : Mk w m fs lp) : m < w.heap.size := by
  obtain ⟨A, n, c, a, zs, h1, -⟩ := h
  exact h1.lt
theorem Mk.cells {w : World} {m : Nat} {fs : Nat → Value} {lp : Int} (h : Mk w m fs lp) : (∀ i, i < 9 → w.cell? ⟨m, i + 2, none⟩ = some (fs i)) ∧ w.cell? ⟨m, 11, none⟩ = some (.int .i64 lp) := by
  obtain ⟨A, n, c, a, zs, h1, -⟩ := h
  refine ⟨fun i hi => ?_, h1.cell 11⟩
  rw [h1.cell (i + 2)]
  have : i = 0 ∨ i = 1 ∨ i = 2 ∨ i = 3 ∨ i = 4 ∨ i = 5 ∨ i = 6 ∨ i = 7 ∨ i = 8 := by omega
  rcases this with rfl | rfl | rfl | rfl | rfl | rfl | rfl | rfl | rfl <;> rfl
theorem Mk.frozen {w : World} {m : Nat} {fs : Nat → Value} {lp : Int} (h : Mk w m fs lp) (i : Nat) : w.frozen? ⟨m, i, none⟩ = false := by
  obtain ⟨A, n, c, a, zs, h1, -⟩ := h
  exact h1.frozen i
theorem Mk.grown {w w' : World} {m : Nat} {fs : Nat → Value} {lp : Int} (h : Mk w m fs lp) {row : Option Nat} (hg : w.grownBy w' row) (hr : ∀ g, row = some g → m < g) : Mk w' m fs lp := by
  have hm := h.lt
  obtain ⟨A, n, c, a, zs, h1, h2, h3, h4, h5⟩ := h
  exact ⟨A, n, c, a, zs, (hg.block m hm (fun e => by have := hr m e.symm; omega)).trans h1, h2, h3, h4.grown hg (by omega) (fun g e => by have := hr g e; omega), h5⟩
theorem Mk.below {w w' : World} {m : Nat} {fs : Nat → Value} {lp : Int} (h : Mk w m fs lp) (hb : Below w.heap.size w w') : Mk w' m fs lp := h.grown (row := none) (only_of_below hb none) (fun g e => by cases e)
/-- the maker is written -/
theorem Mk.set {w : World} {m : Nat} {fs fs' : Nat → Value} {lp lp' : Int} (h : Mk w m fs lp) (j : Nat) (u : Value) (hj : ∀ A n c a, (mkV A n c a fs lp).setIfInBounds j u = mkV A n c a fs' lp') : Mk (w.setCell ⟨m, j, none⟩ u) m fs' lp' := by
  obtain ⟨A, n, c, a, zs, h1, h2, h3, h4, h5⟩ := h
  exact ⟨A, n, c, a, zs, by have := h1.set j u; rwa [hj] at this, h2, h3, h4.setCell (by simp) u, h5⟩
theorem own_grown {w w' : World} {base : Nat} {e : TypeId} {size : Nat} {v : Value} {n : Nat} {xs : List Value} (h : w.ownsRow base e size v n xs) {m : Nat} (hg : w.grownBy w' (some m)) (hm : m < base) : w'.ownsRow base e size v n xs :=
  h.kept (row := some m) hg (by
    cases hb : v.ownBlock with
    | none => exact .inl rfl
    | some g => exact .inr (fun e => by injection e with e; have := (h.lt g hb).1; omega))
/-- a row that a literal lays -/
theorem own_new (w : World) (base : Nat) (e : TypeId) (size n : Nat) (cur : Array Value) (hb : base ≤ w.heap.size) (hn : cur.size = n * size) (hm : n ≤ 1000000) : (w.alloc (.cells cur e)).ownsRow base e size (.slice (some ⟨w.heap.size, 0, none⟩) n n) n cur.toList :=
  ⟨by simpa using hn, .inr ⟨w.heap.size, n, cur, rfl, hb, heap_alloc_new w _, Nat.le_refl _, by unfold maxLen; omega, hn, by rw [List.take_of_length_le]; simpa using Nat.le_of_eq hn⟩⟩
/-- new rows of numbers; new blocks that a font may be made of -/
def NI (base : Nat) (w : World) : Bs := fun b => base ≤ b ∧ ∃ cs, Bk w b tInt cs
def Nw (base : Nat) (w : World) : Bs := fun b => base ≤ b ∧ ∃ cs t, Bk w b t cs ∧ dataT t = true
theorem NI.nw {base : Nat} {w : World} : ∀ b, NI base w b → Nw base w b := fun b ⟨h, cs, k⟩ => ⟨h, cs, _, k, by decide⟩
theorem NI.base {base base' : Nat} {w : World} (hb : base' ≤ base) : ∀ b, NI base w b → NI base' w b := fun b ⟨h, k⟩ => ⟨by omega, k⟩
theorem Nw.base {base base' : Nat} {w : World} (hb : base' ≤ base) : ∀ b, Nw base w b → Nw base' w b := fun b ⟨h, k⟩ => ⟨by omega, k⟩
/-- a block that is older is written -/
theorem NI.old {base : Nat} {w w' : World} {row : Option Nat} (hg : w.grownBy w' row) (hr : ∀ g, row = some g → g < base) : Same (NI base w) w w' ∧ ∀ b, NI base w b → NI base w' b := by
  have key : ∀ b, NI base w b → w'.heap[b]? = w.heap[b]? := fun b ⟨h, cs, k⟩ => hg.block b k.lt (fun e => by have := hr b e.symm; omega)
  exact ⟨key, fun b hb => by obtain ⟨h, cs, k⟩ := hb; exact ⟨h, cs, (key b ⟨h, cs, k⟩).trans k⟩⟩
theorem Nw.old {base : Nat} {w w' : World} {row : Option Nat} (hg : w.grownBy w' row) (hr : ∀ g, row = some g → g < base) : Same (Nw base w) w w' ∧ ∀ b, Nw base w b → Nw base w' b := by
  have key : ∀ b, Nw base w b → w'.heap[b]? = w.heap[b]? := fun b ⟨h, cs, t, k, _⟩ => hg.block b k.lt (fun e => by have := hr b e.symm; omega)
  exact ⟨key, fun b hb => by obtain ⟨h, cs, t, k, d⟩ := hb; exact ⟨h, cs, t, (key b ⟨h, cs, t, k, d⟩).trans k, d⟩⟩
/-- a row of other elements is written -/
theorem NI.row {base : Nat} {w w' : World} {v : Value} {bs : Nat} {e : TypeId} {size n : Nat} {xs : List Value} (ho : w.ownsRow bs e size v n xs) (he : e ≠ tInt) (hg : w.grownBy w' v.ownBlock) : Same (NI base w) w w' ∧ ∀ b, NI base w b → NI base w' b := by
  have key : ∀ b, NI base w b → w'.heap[b]? = w.heap[b]? := fun b ⟨h, cs, k⟩ => hg.block b k.lt (fun e' => by
    obtain ⟨cur, hb⟩ := own_bk ho b e'.symm
    exact he (bk_one hb k).1)
  exact ⟨key, fun b hb => by obtain ⟨h, cs, k⟩ := hb; exact ⟨h, cs, (key b ⟨h, cs, k⟩).trans k⟩⟩
theorem Sl.moved {α : Type} {R : Rel α} (ok : R.Ok) {size : Nat} {w w' : World} {S S' : Bs} {A : Option Addr} {xs : List α} (h : Sl R size w S A xs) (k : Same S w w' ∧ ∀ b, S b → S' b) : Sl R size w' S' A xs := (h.keep ok k.1).mono ok k.2
theorem Fl.moved {α : Type} {R : Rel α} (ok : R.Ok) {size : Nat} {w w' : World} {S S' : Bs} {cs : List Value} {xs : List α} (h : Fl R size w S cs xs) (k : Same S w w' ∧ ∀ b, S b → S' b) : Fl R size w' S' cs xs := (h.keep ok k.1).mono ok k.2
theorem Sl.rdM {α : Type} {R : Rel α} {size : Nat} {w : World} {S : Bs} {A : Option Addr} {xs : List α} (h : Sl R size w S A xs) (hS : ∀ b, S b → b < w.heap.size) : ∃ cells, Fl R size w S cells xs ∧ Rd w w.heap.size A xs.length size cells := by
  obtain ⟨cells, h1, h2⟩ := h
  refine ⟨cells, h1, h1.1, fun h0 => ?_⟩
  obtain ⟨b, o, e, hb, hc⟩ := h2 h0
  exact ⟨b, o, e, hS b hb, hc⟩
theorem NI.lt {base : Nat} {w : World} : ∀ b, NI base w b → b < w.heap.size := fun b ⟨_, _, k⟩ => k.lt
theorem Nw.lt {base : Nat} {w : World} : ∀ b, Nw base w b → b < w.heap.size := fun b ⟨_, _, _, k, _⟩ => k.lt
/-- numbers, instructions, points .. as cells -/
theorem ints_fl (w : World) (S : Bs) (l : List Int) (h : ∀ n ∈ l, I64 n) : Fl IntR 1 w S (cIs l) l :=
  ⟨by simp [cIs], fun k x hx => ⟨[.int .i64 x], ⟨rfl, h x (List.mem_of_getElem? hx)⟩, rfl, fun j u hu => by
    cases j with
    | zero => simp at hu; subst hu; simp [cIs, cI, hx]
    | succ j => simp at hu⟩⟩
theorem flat_fl {α : Type} {R : Rel α} {size : Nat} (w : World) (S : Bs) (f : α → List Value) (l : List α) (hs : ∀ x ∈ l, (f x).length = size) (hR : ∀ x ∈ l, R w S (f x) x) : Fl R size w S (l.flatMap f) l := by
  induction l with
  | nil => exact Fl.nil
  | cons a r ih =>
    rw [List.flatMap_cons]
    exact (Fl.one (hR a (by simp)) (hs a (by simp))).append (ih (fun x hx => hs x (by simp [hx])) (fun x hx => hR x (by simp [hx])))
def insM (i : Ins) : List Value := [.int .i64 i.op, .int .i64 i.a]
def codeC (p : List Ins) : List Value := p.flatMap insM
theorem code_fl (w : World) (S : Bs) (p : List Ins) (h : ∀ i ∈ p, I64 i.op ∧ I64 i.a) : Fl InsR 2 w S (codeC p) p := flat_fl w S insM p (fun _ _ => rfl) (fun x hx => ⟨rfl, h x hx⟩)
theorem codeC_app (a b : List Ins) : codeC (a ++ b) = codeC a ++ codeC b := by simp [codeC]
theorem codeC_one (p : List Ins) : ∀ u ∈ codeC p, u.oneCell' = true := by
  intro u hu
  simp only [codeC, List.mem_flatMap, insM, List.mem_cons, List.not_mem_nil, or_false] at hu
  obtain ⟨p, _, rfl | rfl⟩ := hu <;> rfl
theorem codeC_len (p : List Ins) : (codeC p).length = p.length * 2 := by
  induction p with
  | nil => rfl
  | cons a r ih => simp only [codeC, List.flatMap_cons, List.length_append, List.length_cons, insM, List.length_nil] at ih ⊢; omega
def ptM (p : Pt) : List Value := [.int .i64 p.x, .int .i64 p.y, .bool p.on]
def ptsC (p : List Pt) : List Value := p.flatMap ptM
theorem pts_fl (w : World) (S : Bs) (p : List Pt) (h : ∀ i ∈ p, I64 i.x ∧ I64 i.y) : Fl PtR 3 w S (ptsC p) p := flat_fl w S ptM p (fun _ _ => rfl) (fun x hx => ⟨rfl, h x hx⟩)
theorem ptsC_app (a b : List Pt) : ptsC (a ++ b) = ptsC a ++ ptsC b := by simp [ptsC]
/-- a row of the call's own, of elements that hold no rows -/
theorem Sl.own_nw {α : Type} {R : Rel α} {size : Nat} {w : World} {cells : List Value} {xs : List α} {A : Option Addr} {base b0 n c : Nat} {e : TypeId} (h : w.ownsRow base e size (.slice A n c) n cells) (hf : Fl R size w (Nw b0 w) cells xs) (he : dataT e = true) (hb : b0 ≤ base) (hsz : 0 < size) : Sl R size w (Nw b0 w) A xs :=
  Sl.of_own' h hf (fun g hg => by
    obtain ⟨cur, hk⟩ := own_bk h g hg
    exact ⟨by have := (h.lt g hg).1; omega, cur, e, hk, he⟩) hsz
theorem Sl.own_ni {w : World} {cells : List Value} {xs : List Int} {A : Option Addr} {base b0 n c : Nat} (h : w.ownsRow base tInt 1 (.slice A n c) n cells) (hf : Fl IntR 1 w (NI b0 w) cells xs) (hb : b0 ≤ base) : Sl IntR 1 w (NI b0 w) A xs :=
  Sl.of_own' h hf (fun g hg => by
    obtain ⟨cur, hk⟩ := own_bk h g hg
    exact ⟨by have := (h.lt g hg).1; omega, cur, hk⟩) (by omega)
end Go.Proofs.YtkijckccfookeaaGreatDoor
/- fleuronref06: Of, Union. -/
namespace Go.Proofs.YtkijckccfookeaaGreatDoor
open Go.RowKit
attribute [-go_sem] Builtin.append_

/-- a part of a row -/
theorem Rd.cutI {w : World} {Bd n : Nat} {A : Option Addr} {l : List Int} (h : Rd w Bd A n 1 (cIs l)) (k : Nat) (hk : k ≤ n) : Rd w Bd A k 1 (cIs (l.take k)) := by
  have hl := h.lenI
  refine ⟨by simp [cIs]; omega, fun h0 => ?_⟩
  obtain ⟨b, o, e, hb, hc⟩ := h.2 (by omega)
  refine ⟨b, o, e, hb, fun j u hu => hc j u ?_⟩
  unfold cIs at hu ⊢
  rw [List.map_take, List.getElem?_take] at hu
  split at hu
  · exact hu
  · cases hu
theorem Rd.dropI {w : World} {Bd n c : Nat} {A : Option Addr} {l : List Int} (h : Rd w Bd A n 1 (cIs l)) (k : Nat) (hk : k ≤ n) (hc : n ≤ c) : Rd w Bd (if c = k then A else A.map (·.add (k * 1))) (n - k) 1 (cIs (l.drop k)) := by
  have hl := h.lenI
  refine ⟨by simp [cIs]; omega, fun h0 => ?_⟩
  obtain ⟨b, o, e, hb, hcl⟩ := h.2 (by omega)
  rw [if_neg (by omega), e]
  refine ⟨b, o + k, ?_, hb, fun j u hu => ?_⟩
  · rw [Option.map_some, addr_add, Nat.mul_one]
  · unfold cIs at hu hcl
    rw [List.map_drop, List.getElem?_drop] at hu
    rw [Nat.add_assoc]
    exact hcl _ u hu
theorem sizeI (w : World) : (sizeOf 3).run Tryz.prog w = .ok 1 w := by kernel_rfl
/-- 'out[k:]' -/
theorem run_from (A : Option Addr) (n c k : Nat) (hk : k ≤ n) (w : World) :
    (Instr.slice 22 (.slice A n c) (some (.int .i64 k)) none none).run Tryz.prog w = .ok (.slice (if c = k then A else A.map (·.add (k * 1))) (n - k) (c - k)) w := by
  simp [Instr.slice, Instr.sliceBounds, Instr.sliceBound, asIntOf, run_underlying Tryz.underlying22, sizeI, Result.andThen, hk]
set_option maxRecDepth 100000 in
set_option maxHeartbeats 4000000 in
theorem of_ok (w : World) (A : Option Addr) (n c : Nat) (l : List Int) (h : Rd w w.heap.size A n 1 (cIs l)) (hn : n ≤ 1000000) :
    Calls Tryz.prog 31 #[.slice A n c] w fun e w' => (∃ A' c', e = .returned (.slice A' (setOf l).length c') ∧ Rd w' w'.heap.size A' (setOf l).length 1 (cIs (setOf l))) ∧ Below w.heap.size w w' := by
  have HL := Lib.hid h.lenI
  have HR := Lib.hid h
  clear h
  go_enter Tryz.func31, Tryz.ntmps31
  go_wp2_with fail
  go_loopw [3, 4] (fun o i wr => ∃ (k : Nat) (A1 : Option Addr) (c1 : Nat), k ≤ n ∧ i = .int .i64 k ∧ o = .slice A1 (ofL (l.take k)).length c1 ∧ wr.ownsRow w.heap.size tInt 1 (.slice A1 (ofL (l.take k)).length c1) (ofL (l.take k)).length (cIs (ofL (l.take k))) ∧ Below w.heap.size w wr) (fun _ i _ => n - (intOf i).toNat)
  case atStart => exact ⟨0, some ⟨w.heap.size, 0, none⟩, 0, Nat.zero_le _, rfl, rfl, own_new w w.heap.size tInt 1 0 #[] (Nat.le_refl _) rfl (by omega), (Below.refl _ _).alloc (Nat.le_refl _) _⟩
  case round =>
    obtain ⟨k, A1, c1, hk, rfl, rfl, ho, hb⟩ := hrel
    by_cases hlt : k < n
    · obtain ⟨b, o, x, rfl, hx, q⟩ := ints_at HR.out hb hlt
      have hsn : Hid (ofL (l.take (k + 1)) = insS x (ofL (l.take k))) := by
        show _ = _
        rw [List.take_add_one, hx.out]
        exact ofL_snoc _ _
      have hlen : (ofL (l.take k)).length ≤ n := by
        have := ofL_len (l.take k)
        rw [List.length_take] at this
        omega
      have HB := Lib.hid hb
      have HO := Lib.hid ho
      obtain ⟨A1', c1', e1, hr1⟩ := Rd.of_own ho
      simp only [Value.slice.injEq, true_and] at e1
      obtain ⟨rfl, rfl⟩ := e1
      have hcap : (ofL (l.take k)).length ≤ c1 := by
        rcases ho.2 with ⟨e, h0⟩ | ⟨g, cap, cur, e, _, _, hcp, _⟩
        · omega
        · injection e with e2 e3 e4
          omega
      have HR1 := Lib.hid hr1
      clear hx hb ho hr1
      generalize ofL (l.take k) = s at *
      have hsz := HB.out.size
      go_wp2_with fail
      go_loopw [5] (fun a w2 => ∃ (j nd : Nat), j ≤ s.length ∧ a = .int .i64 j ∧ Hid (∀ i y, i < j → s[i]? = some y → y < x) ∧ w2 = wr.drewN nd) (fun a _ => s.length - (intOf a).toNat)
      case atStart => exact ⟨0, 0, Nat.zero_le _, rfl, fun i y h => absurd h (by omega), rfl⟩
      case round =>
        obtain ⟨j, nd, hj, rfl, hle, rfl⟩ := hrel
        by_cases hjl : j < s.length
        · obtain ⟨b1, o1, y, rfl, hbb, hy, q1⟩ := HR1.out.atI hjl
          by_cases hyx : y < x
          · have hle2 : Hid (∀ i z, i < j + 1 → s[i]? = some z → z < x) := fun i z hi hz => by
              by_cases hij : i < j
              · exact hle.out i z hij hz
              · have : i = j := by omega
                subst this
                rw [hy.out] at hz
                injection hz with hz
                omega
            go_wp2_with fail
            go_quiet (fail)
            go_wp2_with fail
            go_roundw
            case rel => exact ⟨j + 1, _, by omega, by simp, hle2, rfl⟩
            case measure => simp [intOf]; omega
          · have hat := ins_at x s j (by omega) hle.out
            by_cases hex : y = x
            · subst hex
              have HS : Hid (ofL (l.take (k + 1)) = s) := by show _ = _; rw [hsn.out, hat.1 hy.out]
              clear hat
              go_wp2_with fail
              go_quiet (fail)
              go_wp2_with fail
              go_quiet (fail)
              go_wp2_with fail
              exact ⟨⟨k + 1, some ⟨b1, o1, none⟩, c1, by omega, by simp, by rw [HS.out], by rw [HS.out]; exact own_drewN HO.out _, below_drewN HB.out _⟩, by simp [intOf]; omega⟩
            · have HS : Hid (ofL (l.take (k + 1)) = s.take j ++ x :: s.drop j) := by
                show _ = _
                rw [hsn.out, hat.2 (fun z hz => by rw [hy.out] at hz; injection hz with hz; omega)]
              have e2 : (y == x) = false := by simpa using hex
              clear hat
              go_wp2_with fail
              go_quiet (fail)
              go_wp2_with fail
              go_quiet (fail)
              go_wp2_with fail
              generalize hW : ((wr.drewN nd).drewN _).drewN _ = W
              have HBW : Hid (Below w.heap.size w W) := by rw [← hW]; exact Lib.hid (below_drewN (below_drewN (below_drewN HB.out _) _) _)
              have qW : W.cell? ⟨b, o + k, none⟩ = some (.int .i64 x) := by rw [← hW]; exact q
              obtain ⟨A2, hsl, hr2⟩ : ∃ A2, (∀ w', (Instr.slice 22 (.slice (some ⟨b1, o1, none⟩) s.length c1) (some (.int .i64 j)) none none).run Tryz.prog w' = .ok (.slice A2 (s.length - j) (c1 - j)) w') ∧ Rd W W.heap.size A2 (s.length - j) 1 (cIs (s.drop j)) := ⟨_, fun w' => run_from (some ⟨b1, o1, none⟩) s.length c1 j hj w', by rw [← hW]; exact HR1.out.dropI j hj hcap⟩
              have HRT : Hid (Rd W W.heap.size (some ⟨b1, o1, none⟩) j 1 (cIs (s.take j))) := by rw [← hW]; exact HR1.out.cutI j hj
              have hzW := HBW.out.size
              obtain ⟨A3, c3, w3, hrun3, ho3, hg3, hl3⟩ := run_app elInt 22 (W.alloc (.cells #[.int .i64 x] tInt)).drew w.heap.size 1 1 (some ⟨W.heap.size, 0, none⟩) [.int .i64 x] (own_new W w.heap.size tInt 1 1 #[.int .i64 x] hzW rfl (by omega)).drew W.heap.size A2 (s.length - j) (c1 - j) (cIs (s.drop j)) (hr2.alloc (Nat.le_refl _) _).drew (oneI _) (by omega) (by simp; omega)
              have HO3 := Lib.hid ho3
              have HG3 := Lib.hid hg3
              have hrt3 : Rd w3 W.heap.size (some ⟨b1, o1, none⟩) j 1 (cIs (s.take j)) := ((HRT.out.alloc (Nat.le_refl _) _).drew).grown hg3 (by simp) (fun g e => by simp [Value.ownBlock] at e; omega)
              have hz3 : W.heap.size + 1 ≤ w3.heap.size := by have := hg3.size; simpa using this
              have HB3 : Hid (Below w.heap.size w w3) := Lib.hid (((HBW.out.alloc hzW _).drew).grown hg3 (by simp; omega) (fun g e => by simp [Value.ownBlock] at e; omega))
              have hr3 : Rd w3 w3.heap.size A3 (1 + (s.length - j)) 1 ([.int .i64 x] ++ cIs (s.drop j)) := by
                obtain ⟨A', c', e1, h1⟩ := Rd.of_own ho3
                simp only [Value.slice.injEq, true_and] at e1
                obtain ⟨rfl, rfl⟩ := e1
                exact h1
              have HT3 := Lib.hid hrt3
              have HR3 := Lib.hid hr3
              have hone : ∀ u ∈ [Value.int .i64 x] ++ cIs (s.drop j), u.oneCell' = true := by
                intro u hu
                rw [List.mem_append, List.mem_singleton] at hu
                rcases hu with rfl | hu
                · rfl
                · exact oneI _ u hu
              have HN := Lib.hid hone
              have tk1 : True := trivial
              have tk2 : True := trivial
              clear hr2 ho3 hg3 hl3 hW HO HB HR1 q hrt3 hr3 hone HO3 HG3 HRT
              go_region
              all_goals
                go_wp2_with (first
                  | (at_builtin; have _t := tk1; refine app_l elInt rfl (.tmp 55) (.tmp 58) rfl _ w.heap.size 0 0 (some ⟨w3.heap.size, 0, none⟩) [] w3.heap.size (some ⟨b1, o1, none⟩) j c1 (cIs (s.take j)) rfl rfl (own_new w3 w.heap.size tInt 1 0 #[] (by omega) rfl (by omega)) ((HT3.out.mono (by omega)).alloc (Nat.le_refl _) _) (oneI _) (by omega) (by simp; omega) ?_; intro A4 c4 w4; rw [Nat.zero_add, List.nil_append]; intro h4 g4 l4; have hr4 := (HR3.out.alloc (Nat.le_refl _) (.cells #[] tInt)).grown g4 (by simp) (fun g e => by simp [Value.ownBlock] at e; omega); have HB4 : Hid (Below w.heap.size w w4) := Lib.hid ((HB3.out.alloc (by omega) _).grown g4 (by simp; omega) (fun g e => by simp [Value.ownBlock] at e; omega)); have hz4 := HB4.out.size; have hz5 : w3.heap.size ≤ w4.heap.size := (by have := g4.size; simp at this; omega); clear g4 l4 _t tk1)
                  | (at_builtin; have _t := tk2; refine app_l elInt rfl (.tmp 59) (.tmp 60) rfl w4 w.heap.size j c4 A4 (cIs (s.take j)) w3.heap.size A3 (1 + (s.length - j)) c3 ([.int .i64 x] ++ cIs (s.drop j)) rfl rfl h4 hr4 HN.out (by omega) (by omega) ?_; intro A5 c5 w5 h5 g5 l5; have HB5 : Hid (Below w.heap.size w w5) := Lib.hid (HB4.out.grown g5 (by omega) (fun g e => (h4.lt g e).1)); clear g5 l5 _t tk2))
                have el : Hid ((ofL (l.take (k + 1))).length = j + (1 + (s.length - j))) := by
                  show _ = _
                  rw [HS.out, List.length_append, List.length_cons, List.length_take, List.length_drop, Nat.min_eq_left hj]
                  omega
                have ec : Hid (cIs (ofL (l.take (k + 1))) = cIs (s.take j) ++ ([.int .i64 x] ++ cIs (s.drop j))) := by
                  show _ = _
                  rw [HS.out]
                  simp [cIs, cI]
                exact ⟨⟨k + 1, A5, c5, by omega, by simp, by rw [el.out], by rw [el.out, ec.out]; exact h5, HB5.out⟩, by simp [intOf]; omega⟩
        · have hjs : j = s.length := by omega
          have hat := ins_at x s j hj hle.out
          have HS : Hid (ofL (l.take (k + 1)) = s.take j ++ x :: s.drop j) := by
            show _ = _
            rw [hsn.out, hat.2 (fun z hz => by rw [List.getElem?_eq_none (by omega)] at hz; cases hz)]
          clear hat hjs
          go_wp2_with fail
          go_quiet (fail)
          go_wp2_with fail
          go_quiet (fail)
          go_wp2_with fail
          generalize hW : ((wr.drewN nd).drewN _).drewN _ = W
          have HBW : Hid (Below w.heap.size w W) := by rw [← hW]; exact Lib.hid (below_drewN (below_drewN (below_drewN HB.out _) _) _)
          have qW : W.cell? ⟨b, o + k, none⟩ = some (.int .i64 x) := by rw [← hW]; exact q
          obtain ⟨A2, hsl, hr2⟩ : ∃ A2, (∀ w', (Instr.slice 22 (.slice A1 s.length c1) (some (.int .i64 j)) none none).run Tryz.prog w' = .ok (.slice A2 (s.length - j) (c1 - j)) w') ∧ Rd W W.heap.size A2 (s.length - j) 1 (cIs (s.drop j)) := ⟨_, fun w' => run_from A1 s.length c1 j hj w', by rw [← hW]; exact HR1.out.dropI j hj hcap⟩
          have HRT : Hid (Rd W W.heap.size A1 j 1 (cIs (s.take j))) := by rw [← hW]; exact HR1.out.cutI j hj
          have hzW := HBW.out.size
          obtain ⟨A3, c3, w3, hrun3, ho3, hg3, hl3⟩ := run_app elInt 22 (W.alloc (.cells #[.int .i64 x] tInt)).drew w.heap.size 1 1 (some ⟨W.heap.size, 0, none⟩) [.int .i64 x] (own_new W w.heap.size tInt 1 1 #[.int .i64 x] hzW rfl (by omega)).drew W.heap.size A2 (s.length - j) (c1 - j) (cIs (s.drop j)) (hr2.alloc (Nat.le_refl _) _).drew (oneI _) (by omega) (by simp; omega)
          have HO3 := Lib.hid ho3
          have HG3 := Lib.hid hg3
          have hrt3 : Rd w3 W.heap.size A1 j 1 (cIs (s.take j)) := ((HRT.out.alloc (Nat.le_refl _) _).drew).grown hg3 (by simp) (fun g e => by simp [Value.ownBlock] at e; omega)
          have hz3 : W.heap.size + 1 ≤ w3.heap.size := by have := hg3.size; simpa using this
          have HB3 : Hid (Below w.heap.size w w3) := Lib.hid (((HBW.out.alloc hzW _).drew).grown hg3 (by simp; omega) (fun g e => by simp [Value.ownBlock] at e; omega))
          have hr3 : Rd w3 w3.heap.size A3 (1 + (s.length - j)) 1 ([.int .i64 x] ++ cIs (s.drop j)) := by
            obtain ⟨A', c', e1, h1⟩ := Rd.of_own ho3
            simp only [Value.slice.injEq, true_and] at e1
            obtain ⟨rfl, rfl⟩ := e1
            exact h1
          have HT3 := Lib.hid hrt3
          have HR3 := Lib.hid hr3
          have hone : ∀ u ∈ [Value.int .i64 x] ++ cIs (s.drop j), u.oneCell' = true := by
            intro u hu
            rw [List.mem_append, List.mem_singleton] at hu
            rcases hu with rfl | hu
            · rfl
            · exact oneI _ u hu
          have HN := Lib.hid hone
          have tk1 : True := trivial
          have tk2 : True := trivial
          clear hr2 ho3 hg3 hl3 hW HO HB HR1 q hrt3 hr3 hone HO3 HG3 HRT
          go_region
          all_goals
            go_wp2_with (first
              | (at_builtin; have _t := tk1; refine app_l elInt rfl (.tmp 55) (.tmp 58) rfl _ w.heap.size 0 0 (some ⟨w3.heap.size, 0, none⟩) [] w3.heap.size A1 j c1 (cIs (s.take j)) rfl rfl (own_new w3 w.heap.size tInt 1 0 #[] (by omega) rfl (by omega)) ((HT3.out.mono (by omega)).alloc (Nat.le_refl _) _) (oneI _) (by omega) (by simp; omega) ?_; intro A4 c4 w4; rw [Nat.zero_add, List.nil_append]; intro h4 g4 l4; have hr4 := (HR3.out.alloc (Nat.le_refl _) (.cells #[] tInt)).grown g4 (by simp) (fun g e => by simp [Value.ownBlock] at e; omega); have HB4 : Hid (Below w.heap.size w w4) := Lib.hid ((HB3.out.alloc (by omega) _).grown g4 (by simp; omega) (fun g e => by simp [Value.ownBlock] at e; omega)); have hz4 := HB4.out.size; have hz5 : w3.heap.size ≤ w4.heap.size := (by have := g4.size; simp at this; omega); clear g4 l4 _t tk1)
              | (at_builtin; have _t := tk2; refine app_l elInt rfl (.tmp 59) (.tmp 60) rfl w4 w.heap.size j c4 A4 (cIs (s.take j)) w3.heap.size A3 (1 + (s.length - j)) c3 ([.int .i64 x] ++ cIs (s.drop j)) rfl rfl h4 hr4 HN.out (by omega) (by omega) ?_; intro A5 c5 w5 h5 g5 l5; have HB5 : Hid (Below w.heap.size w w5) := Lib.hid (HB4.out.grown g5 (by omega) (fun g e => (h4.lt g e).1)); clear g5 l5 _t tk2))
            have el : Hid ((ofL (l.take (k + 1))).length = j + (1 + (s.length - j))) := by
              show _ = _
              rw [HS.out, List.length_append, List.length_cons, List.length_take, List.length_drop, Nat.min_eq_left hj]
              omega
            have ec : Hid (cIs (ofL (l.take (k + 1))) = cIs (s.take j) ++ ([.int .i64 x] ++ cIs (s.drop j))) := by
              show _ = _
              rw [HS.out]
              simp [cIs, cI]
            exact ⟨⟨k + 1, A5, c5, by omega, by simp, by rw [el.out], by rw [el.out, ec.out]; exact h5, HB5.out⟩, by simp [intOf]; omega⟩
    · obtain rfl : k = n := by omega
      rw [List.take_of_length_le (by rw [HL.out]; exact Nat.le_refl _), ofL_set] at ho
      have HS : Hid (ofL (l.take k) = setOf l) := by show _ = _; rw [List.take_of_length_le (by rw [HL.out]; exact Nat.le_refl _), ofL_set]
      have HO := Lib.hid ho
      have HB := Lib.hid hb
      rw [HS.out]
      clear ho hb
      go_wp2_with fail
      go_ret
      obtain ⟨A', c', e1, hr1⟩ := Rd.of_own HO.out
      simp only [Value.slice.injEq, true_and] at e1
      obtain ⟨rfl, rfl⟩ := e1
      exact ⟨⟨A1, c1, rfl, hr1⟩, HB.out⟩
set_option maxRecDepth 100000 in
set_option maxHeartbeats 4000000 in
theorem union_ok (w : World) (A1 A2 : Option Addr) (n1 n2 c1 c2 : Nat) (l1 l2 : List Int) (h1 : Rd w w.heap.size A1 n1 1 (cIs l1)) (h2 : Rd w w.heap.size A2 n2 1 (cIs l2)) (k1 : n1 ≤ 100000) (k2 : n2 ≤ 100000) :
    Calls Tryz.prog 33 #[.slice A1 n1 c1, .slice A2 n2 c2] w fun e w' => (∃ A' c', e = .returned (.slice A' (setOf (l1 ++ l2)).length c') ∧ Rd w' w'.heap.size A' (setOf (l1 ++ l2)).length 1 (cIs (setOf (l1 ++ l2)))) ∧ Below w.heap.size w w' := by
  have HR1 := Lib.hid h1
  have HR2 := Lib.hid h2
  clear h1 h2
  have tk1 : True := trivial
  have tk2 : True := trivial
  obtain ⟨s, hs⟩ : ∃ s, setOf (l1 ++ l2) = s := ⟨_, rfl⟩
  rw [hs]
  have HS := Lib.hid hs
  clear hs
  go_enter Tryz.func33, Tryz.ntmps33
  go_wp2_with (first
    | (at_builtin; have _t := tk1; refine app_l elInt rfl (.tmp 5) (.tmp 6) rfl _ w.heap.size 0 0 (some ⟨w.heap.size, 0, none⟩) [] w.heap.size A1 n1 c1 (cIs l1) rfl rfl (own_new w w.heap.size tInt 1 0 #[] (Nat.le_refl _) rfl (by omega)) (HR1.out.alloc (Nat.le_refl _) _) (oneI _) (by omega) (by simp) ?_; intro A4 c4 w4; rw [Nat.zero_add, List.nil_append]; intro h4 g4 l4; have hr4 := (HR2.out.alloc (Nat.le_refl _) (.cells #[] tInt)).grown g4 (by simp) (fun g e => by simp [Value.ownBlock] at e; omega); have HB4 : Hid (Below w.heap.size w w4) := Lib.hid (((Below.refl _ _).alloc (Nat.le_refl _) _).grown g4 (by simp) (fun g e => by simp [Value.ownBlock] at e; omega)); have hz4 := HB4.out.size; clear g4 l4 _t tk1)
    | (at_builtin; have _t := tk2; refine app_l elInt rfl (.tmp 7) (.tmp 8) rfl w4 w.heap.size n1 c4 A4 (cIs l1) w.heap.size A2 n2 c2 (cIs l2) rfl rfl h4 hr4 (oneI _) (by omega) (by omega) ?_; intro A5 c5 w5 h5 g5 l5; have HB5 : Hid (Below w.heap.size w w5) := Lib.hid (HB4.out.grown g5 (by omega) (fun g e => (h4.lt g e).1)); clear g5 l5 _t tk2))
  have hr5 : Rd w5 w5.heap.size A5 (n1 + n2) 1 (cIs (l1 ++ l2)) := by
    obtain ⟨A', c', e1, h1⟩ := Rd.of_own h5
    simp only [Value.slice.injEq, true_and] at e1
    obtain ⟨rfl, rfl⟩ := e1
    simpa [cIs] using h1
  have hof := of_ok w5 A5 (n1 + n2) c5 (l1 ++ l2) hr5 (by omega)
  rw [HS.out] at hof
  refine hof.mono ?_
  rintro e w6 ⟨⟨A', c', rfl, hr6⟩, hb6⟩
  have HB6 : Hid (Below w.heap.size w w6) := Lib.hid (HB5.out.trans (hb6.mono HB5.out.size))
  have HR6 := Lib.hid hr6
  clear hr5 hr6 hb6 h5 h4 hr4 hof
  go_wp2_with fail
  go_ret
  exact ⟨⟨A', c', rfl, HR6.out⟩, HB6.out⟩
end Go.Proofs.YtkijckccfookeaaGreatDoor
