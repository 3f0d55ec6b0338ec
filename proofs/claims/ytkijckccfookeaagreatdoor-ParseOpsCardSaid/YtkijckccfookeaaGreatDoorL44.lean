/- The maker of fonts (fleuronref07) in memory; what is new. Plain facts, no program. -/
import Derived.Test.YtkijckccfookeaaGreatDoorL12
import Derived.BigQuiet
namespace Go.Proofs.YtkijckccfookeaaGreatDoor
open Go.RowKit

abbrev tMk : TypeId := 149
abbrev tInt : TypeId := 3
def mkV (A : Option Addr) (n c a : Nat) (fs : Nat → Value) (lp : Int) : Array Value := #[.slice A n c, .int .i64 a, fs 0, fs 1, fs 2, fs 3, fs 4, fs 5, fs 6, fs 7, fs 8, .int .i64 lp]
/-- the maker: some numbers, which is next, the font's cells, how many loops are left -/
def Mk (w : World) (m : Nat) (fs : Nat → Value) (lp : Int) : Prop :=
  ∃ A n c a zs, Bk w m tMk (mkV A n c a fs lp) ∧ a ≤ n ∧ n ≤ 1000000000 ∧ Rd w m A n 1 (cIs zs) ∧ ∀ z ∈ zs, I64 z
/-- all but the maker is as it was -/
abbrev Mv (m : Nat) (w w' : World) : Prop := w.grownBy w' (some m)
theorem grown_trans {a b c : World} {row : Option Nat} (h : a.grownBy b row) (k : b.grownBy c row) : a.grownBy c row :=
  ⟨k.os.trans h.os, k.tape.trans h.tape, k.output.trans h.output, Nat.le_trans h.size k.size, fun i hi hne => (k.block i (Nat.lt_of_lt_of_le hi h.size) hne).trans (h.block i hi hne)⟩
theorem below_grownM {a b c : World} {row : Option Nat} (h : Below a.heap.size a b) (k : b.grownBy c row) : a.grownBy c row := grown_trans (only_of_below h row) k
theorem grown_lowB {a b : World} {m Bd : Nat} (h : a.grownBy b (some m)) (hm : Bd ≤ m) (hB : Bd ≤ a.heap.size) : Below Bd a b :=
  ⟨h.os, h.tape, h.output, h.size, fun i hi => h.block i (by omega) (fun e => by injection e with e; omega)⟩
theorem Mk.lt {w : World} {m : Nat} {fs : Nat → Value} {lp : Int} (h : Mk w m fs lp) : m < w.heap.size := by
  obtain ⟨A, n, c, a, zs, h1, -⟩ := h
  exact h1.lt
theorem Mk.cells {w : World} {m : Nat} {fs : Nat → Value} {lp : Int} (h : Mk w m fs lp) : (∀ i, i < 9 → w.cell? ⟨m, i + 2, none⟩ = some (fs i)) ∧ w.cell? ⟨m, 11, none⟩ = some (.int .i64 lp) := by
  obtain ⟨A, n, c, a, zs, h1, -⟩ := h
  refine ⟨fun i hi => ?_, h1.cell 11⟩
  rw [h1.cell (i + 2)]
  have : i = 0 ∨ i = 1 ∨ i = 2 ∨ i = 3 ∨ i = 4 ∨ i = 5 ∨ i = 6 ∨ i = 7 ∨ i = 8 := by omega
  rcases this with rfl | rfl | rfl | rfl | rfl | rfl | rfl | rfl | rfl <;> rfl
theorem Mk.frozen {w : World} {m : Nat} {fs : Nat → Value} {lp : Int} (h : Mk w m fs lp) (i : Nat) : w.frozen? ⟨m, i, none⟩ = false := by
  obtain ⟨A, n, c, a, zs, h1, -⟩ := h
  exact h1.frozen i
theorem Mk.grown {w w' : World} {m : Nat} {fs : Nat → Value} {lp : Int} (h : Mk w m fs lp) {row : Option Nat} (hg : w.grownBy w' row) (hr : ∀ g, row = some g → m < g) : Mk w' m fs lp := by
  have hm := h.lt
  obtain ⟨A, n, c, a, zs, h1, h2, h3, h4, h5⟩ := h
  exact ⟨A, n, c, a, zs, (hg.block m hm (fun e => by have := hr m e.symm; omega)).trans h1, h2, h3, h4.grown hg (by omega) (fun g e => by have := hr g e; omega), h5⟩
theorem Mk.below {w w' : World} {m : Nat} {fs : Nat → Value} {lp : Int} (h : Mk w m fs lp) (hb : Below w.heap.size w w') : Mk w' m fs lp := h.grown (row := none) (only_of_below hb none) (fun g e => by cases e)
/-- the maker is written -/
theorem Mk.set {w : World} {m : Nat} {fs fs' : Nat → Value} {lp lp' : Int} (h : Mk w m fs lp) (j : Nat) (u : Value) (hj : ∀ A n c a, (mkV A n c a fs lp).setIfInBounds j u = mkV A n c a fs' lp') : Mk (w.setCell ⟨m, j, none⟩ u) m fs' lp' := by
  obtain ⟨A, n, c, a, zs, h1, h2, h3, h4, h5⟩ := h
  exact ⟨A, n, c, a, zs, by have := h1.set j u; rwa [hj] at this, h2, h3, h4.setCell (by simp) u, h5⟩
theorem own_grown {w w' : World} {base : Nat} {e : TypeId} {size : Nat} {v : Value} {n : Nat} {xs : List Value} (h : w.ownsRow base e size v n xs) {m : Nat} (hg : w.grownBy w' (some m)) (hm : m < base) : w'.ownsRow base e size v n xs :=
  h.kept (row := some m) hg (by
    cases hb : v.ownBlock with
    | none => exact .inl rfl
    | some g => exact .inr (fun e => by injection e with e; have := (h.lt g hb).1; omega))
/-- a row that a literal lays -/
theorem own_new (w : World) (base : Nat) (e : TypeId) (size n : Nat) (cur : Array Value) (hb : base ≤ w.heap.size) (hn : cur.size = n * size) (hm : n ≤ 1000000) : (w.alloc (.cells cur e)).ownsRow base e size (.slice (some ⟨w.heap.size, 0, none⟩) n n) n cur.toList :=
  ⟨by simpa using hn, .inr ⟨w.heap.size, n, cur, rfl, hb, heap_alloc_new w _, Nat.le_refl _, by unfold maxLen; omega, hn, by rw [List.take_of_length_le]; simpa using Nat.le_of_eq hn⟩⟩
/-- new rows of numbers; new blocks that a font may be made of -/
def NI (base : Nat) (w : World) : Bs := fun b => base ≤ b ∧ ∃ cs, Bk w b tInt cs
def Nw (base : Nat) (w : World) : Bs := fun b => base ≤ b ∧ ∃ cs t, Bk w b t cs ∧ dataT t = true
theorem NI.nw {base : Nat} {w : World} : ∀ b, NI base w b → Nw base w b := fun b ⟨h, cs, k⟩ => ⟨h, cs, _, k, by decide⟩
theorem NI.base {base base' : Nat} {w : World} (hb : base' ≤ base) : ∀ b, NI base w b → NI base' w b := fun b ⟨h, k⟩ => ⟨by omega, k⟩
theorem Nw.base {base base' : Nat} {w : World} (hb : base' ≤ base) : ∀ b, Nw base w b → Nw base' w b := fun b ⟨h, k⟩ => ⟨by omega, k⟩
/-- a block that is older is written -/
theorem NI.old {base : Nat} {w w' : World} {row : Option Nat} (hg : w.grownBy w' row) (hr : ∀ g, row = some g → g < base) : Same (NI base w) w w' ∧ ∀ b, NI base w b → NI base w' b := by
  have key : ∀ b, NI base w b → w'.heap[b]? = w.heap[b]? := fun b ⟨h, cs, k⟩ => hg.block b k.lt (fun e => by have := hr b e.symm; omega)
  exact ⟨key, fun b hb => by obtain ⟨h, cs, k⟩ := hb; exact ⟨h, cs, (key b ⟨h, cs, k⟩).trans k⟩⟩
theorem Nw.old {base : Nat} {w w' : World} {row : Option Nat} (hg : w.grownBy w' row) (hr : ∀ g, row = some g → g < base) : Same (Nw base w) w w' ∧ ∀ b, Nw base w b → Nw base w' b := by
  have key : ∀ b, Nw base w b → w'.heap[b]? = w.heap[b]? := fun b ⟨h, cs, t, k, _⟩ => hg.block b k.lt (fun e => by have := hr b e.symm; omega)
  exact ⟨key, fun b hb => by obtain ⟨h, cs, t, k, d⟩ := hb; exact ⟨h, cs, t, (key b ⟨h, cs, t, k, d⟩).trans k, d⟩⟩
/-- a row of other elements is written -/
theorem NI.row {base : Nat} {w w' : World} {v : Value} {bs : Nat} {e : TypeId} {size n : Nat} {xs : List Value} (ho : w.ownsRow bs e size v n xs) (he : e ≠ tInt) (hg : w.grownBy w' v.ownBlock) : Same (NI base w) w w' ∧ ∀ b, NI base w b → NI base w' b := by
  have key : ∀ b, NI base w b → w'.heap[b]? = w.heap[b]? := fun b ⟨h, cs, k⟩ => hg.block b k.lt (fun e' => by
    obtain ⟨cur, hb⟩ := own_bk ho b e'.symm
    exact he (bk_one hb k).1)
  exact ⟨key, fun b hb => by obtain ⟨h, cs, k⟩ := hb; exact ⟨h, cs, (key b ⟨h, cs, k⟩).trans k⟩⟩
theorem Sl.moved {α : Type} {R : Rel α} (ok : R.Ok) {size : Nat} {w w' : World} {S S' : Bs} {A : Option Addr} {xs : List α} (h : Sl R size w S A xs) (k : Same S w w' ∧ ∀ b, S b → S' b) : Sl R size w' S' A xs := (h.keep ok k.1).mono ok k.2
theorem Fl.moved {α : Type} {R : Rel α} (ok : R.Ok) {size : Nat} {w w' : World} {S S' : Bs} {cs : List Value} {xs : List α} (h : Fl R size w S cs xs) (k : Same S w w' ∧ ∀ b, S b → S' b) : Fl R size w' S' cs xs := (h.keep ok k.1).mono ok k.2
theorem Sl.rdM {α : Type} {R : Rel α} {size : Nat} {w : World} {S : Bs} {A : Option Addr} {xs : List α} (h : Sl R size w S A xs) (hS : ∀ b, S b → b < w.heap.size) : ∃ cells, Fl R size w S cells xs ∧ Rd w w.heap.size A xs.length size cells := by
  obtain ⟨cells, h1, h2⟩ := h
  refine ⟨cells, h1, h1.1, fun h0 => ?_⟩
  obtain ⟨b, o, e, hb, hc⟩ := h2 h0
  exact ⟨b, o, e, hS b hb, hc⟩
theorem NI.lt {base : Nat} {w : World} : ∀ b, NI base w b → b < w.heap.size := fun b ⟨_, _, k⟩ => k.lt
theorem Nw.lt {base : Nat} {w : World} : ∀ b, Nw base w b → b < w.heap.size := fun b ⟨_, _, _, k, _⟩ => k.lt
/-- numbers, instructions, points .. as cells -/
theorem ints_fl (w : World) (S : Bs) (l : List Int) (h : ∀ n ∈ l, I64 n) : Fl IntR 1 w S (cIs l) l :=
  ⟨by simp [cIs], fun k x hx => ⟨[.int .i64 x], ⟨rfl, h x (List.mem_of_getElem? hx)⟩, rfl, fun j u hu => by
    cases j with
    | zero => simp at hu; subst hu; simp [cIs, cI, hx]
    | succ j => simp at hu⟩⟩
theorem flat_fl {α : Type} {R : Rel α} {size : Nat} (w : World) (S : Bs) (f : α → List Value) (l : List α) (hs : ∀ x ∈ l, (f x).length = size) (hR : ∀ x ∈ l, R w S (f x) x) : Fl R size w S (l.flatMap f) l := by
  induction l with
  | nil => exact Fl.nil
  | cons a r ih =>
    rw [List.flatMap_cons]
    exact (Fl.one (hR a (by simp)) (hs a (by simp))).append (ih (fun x hx => hs x (by simp [hx])) (fun x hx => hR x (by simp [hx])))
def insM (i : Ins) : List Value := [.int .i64 i.op, .int .i64 i.a]
def codeC (p : List Ins) : List Value := p.flatMap insM
theorem code_fl (w : World) (S : Bs) (p : List Ins) (h : ∀ i ∈ p, I64 i.op ∧ I64 i.a) : Fl InsR 2 w S (codeC p) p := flat_fl w S insM p (fun _ _ => rfl) (fun x hx => ⟨rfl, h x hx⟩)
theorem codeC_app (a b : List Ins) : codeC (a ++ b) = codeC a ++ codeC b := by simp [codeC]
theorem codeC_one (p : List Ins) : ∀ u ∈ codeC p, u.oneCell' = true := by
  intro u hu
  simp only [codeC, List.mem_flatMap, insM, List.mem_cons, List.not_mem_nil, or_false] at hu
  obtain ⟨p, _, rfl | rfl⟩ := hu <;> rfl
theorem codeC_len (p : List Ins) : (codeC p).length = p.length * 2 := by
  induction p with
  | nil => rfl
  | cons a r ih => simp only [codeC, List.flatMap_cons, List.length_append, List.length_cons, insM, List.length_nil] at ih ⊢; omega
def ptM (p : Pt) : List Value := [.int .i64 p.x, .int .i64 p.y, .bool p.on]
def ptsC (p : List Pt) : List Value := p.flatMap ptM
theorem pts_fl (w : World) (S : Bs) (p : List Pt) (h : ∀ i ∈ p, I64 i.x ∧ I64 i.y) : Fl PtR 3 w S (ptsC p) p := flat_fl w S ptM p (fun _ _ => rfl) (fun x hx => ⟨rfl, h x hx⟩)
theorem ptsC_app (a b : List Pt) : ptsC (a ++ b) = ptsC a ++ ptsC b := by simp [ptsC]
/-- a row of the call's own, of elements that hold no rows -/
theorem Sl.own_nw {α : Type} {R : Rel α} {size : Nat} {w : World} {cells : List Value} {xs : List α} {A : Option Addr} {base b0 n c : Nat} {e : TypeId} (h : w.ownsRow base e size (.slice A n c) n cells) (hf : Fl R size w (Nw b0 w) cells xs) (he : dataT e = true) (hb : b0 ≤ base) (hsz : 0 < size) : Sl R size w (Nw b0 w) A xs :=
  Sl.of_own' h hf (fun g hg => by
    obtain ⟨cur, hk⟩ := own_bk h g hg
    exact ⟨by have := (h.lt g hg).1; omega, cur, e, hk, he⟩) hsz
theorem Sl.own_ni {w : World} {cells : List Value} {xs : List Int} {A : Option Addr} {base b0 n c : Nat} (h : w.ownsRow base tInt 1 (.slice A n c) n cells) (hf : Fl IntR 1 w (NI b0 w) cells xs) (hb : b0 ≤ base) : Sl IntR 1 w (NI b0 w) A xs :=
  Sl.of_own' h hf (fun g hg => by
    obtain ⟨cur, hk⟩ := own_bk h g hg
    exact ⟨by have := (h.lt g hg).1; omega, cur, hk⟩) (by omega)
end Go.Proofs.YtkijckccfookeaaGreatDoor
/- fleuronref07: the maker's next number. -/
namespace Go.Proofs.YtkijckccfookeaaGreatDoor
open Go.RowKit

theorem tmod_any (z : Int) (k : Nat) (h : 1 ≤ k) : ∃ r : Int, z.tmod (k : Int) = r ∧ -(k : Int) < r ∧ r < k := by
  refine ⟨_, rfl, ?_, ?_⟩
  · rw [Int.tmod_eq_emod]
    have h1 := Int.emod_nonneg z (show (k : Int) ≠ 0 by omega)
    split
    · omega
    · rename_i hn
      have h2 : z % (k : Int) ≠ 0 := fun e => hn (.inr (Int.dvd_of_emod_eq_zero e))
      omega
  · exact Int.tmod_lt_of_pos z (by omega)
theorem tmod_nn (r : Int) (k : Nat) (h : 1 ≤ k) (h0 : 0 ≤ r) : ∃ x : Nat, r.tmod (k : Int) = x ∧ x < k := by
  refine ⟨(r % (k : Int)).toNat, ?_, ?_⟩
  · rw [Int.tmod_eq_emod_of_nonneg h0, Int.toNat_of_nonneg (Int.emod_nonneg _ (by omega))]
  · have := Int.emod_lt_of_pos r (show (0 : Int) < k by omega)
    have := Int.emod_nonneg r (show (k : Int) ≠ 0 by omega)
    omega
def NextPost (w : World) (m : Nat) (fs : Nat → Value) (lp : Int) (k : Nat) (e : Ending) (w' : World) : Prop :=
  ∃ x : Nat, x < k ∧ e = .returned (.int .i64 x) ∧ Mk w' m fs lp ∧ Mv m w w'
set_option maxRecDepth 100000 in
set_option maxHeartbeats 4000000 in
theorem next_ok (w : World) (m : Nat) (fs : Nat → Value) (lp : Int) (k : Nat) (h : Mk w m fs lp) (h1 : 1 ≤ k) (hk : k ≤ 1000000) :
    Calls Tryz.prog 59 #[.pointer (some ⟨m, 0, none⟩), .int .i64 k] w (NextPost w m fs lp k) := by
  obtain ⟨A, n, c, a, zs, hb, ha, hn, hr, hz⟩ := h
  have HB := Lib.hid hb
  have HR := Lib.hid hr
  have HZ := Lib.hid hz
  have q0 : w.cell? ⟨m, 0, none⟩ = some (.slice A n c) := hb.cell 0
  have q1 : w.cell? ⟨m, 1, none⟩ = some (.int .i64 a) := hb.cell 1
  have y1 := hb.frozen 1
  have zm := hb.lt
  by_cases hlt : a < n
  · obtain ⟨b, o, z, rfl, hbm, hx, q2⟩ := hr.atI hlt
    have hzi := hz z (List.mem_of_getElem? hx.out)
    obtain ⟨r, hr1, hr2, hr3⟩ := tmod_any z k h1
    obtain ⟨x, hx1, hx2⟩ := tmod_nn (r + k) k h1 (by omega)
    unfold I64 at hzi
    clear hb hr hz hx
    go_enter Tryz.func59, Tryz.ntmps59
    go_wp2_with fail
    go_quiet (fail)
    go_wp2_with fail
    go_quiet (fail)
    go_wp2_with fail
    go_ret
    refine ⟨x, hx2, rfl, ?_, only_setCell (only_drewN (World.grownBy.refl _ _) _) (.inl rfl) _⟩
    refine ⟨some ⟨b, o, none⟩, n, c, a + 1, zs, ?_, hlt, hn, (HR.out.drewN _).setCell (p := ⟨m, 1, none⟩) (Nat.le_refl _) _, HZ.out⟩
    exact Bk.set (w := w.drewN _) HB.out 1 (.int .i64 (a + 1))
  · have e1 : decide ((n : Int) ≤ a) = true := by simp; omega
    clear hb hr hz
    go_enter Tryz.func59, Tryz.ntmps59
    go_wp2_with fail
    go_quiet (fail)
    go_wp2_with fail
    go_ret
    exact ⟨0, h1, rfl, ⟨A, n, c, a, zs, HB.out, ha, hn, HR.out.drewN _, HZ.out⟩, only_drewN (World.grownBy.refl _ _) _⟩
end Go.Proofs.YtkijckccfookeaaGreatDoor
