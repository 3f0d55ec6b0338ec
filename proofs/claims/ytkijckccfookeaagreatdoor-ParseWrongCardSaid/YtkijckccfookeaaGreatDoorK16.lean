/- parse: what a statement leaves; a row of the parser's written on. -/
import Derived.Test.YtkijckccfookeaaGreatDoorK15
namespace Go.Proofs.YtkijckccfookeaaGreatDoor
open Go.RowKit

/-- objects that statements leave alone -/
def keepO (cm b : Nat) : Obj → Prop
  | .cells _ t _ => dataT t = false ∧ t ≠ tPar
  | .map _ _ => b ≠ cm
  | _ => True
structure KQ (cm : Nat) (w w' : World) : Prop where
  same : ∀ (b : Nat) (o : Obj), w.heap[b]? = some o → keepO cm b o → w'.heap[b]? = some o
  size : w.heap.size ≤ w'.heap.size
theorem KQ.refl (cm : Nat) (w : World) : KQ cm w w := ⟨fun _ _ h _ => h, Nat.le_refl _⟩
theorem KQ.trans {cm : Nat} {a b c : World} (h : KQ cm a b) (k : KQ cm b c) : KQ cm a c := ⟨fun x o hx ho => k.same x o (h.same x o hx ho) ho, Nat.le_trans h.size k.size⟩
theorem KQ.below {cm : Nat} {w w' : World} (h : Below w.heap.size w w') : KQ cm w w' := ⟨fun b o hb _ => (h.block b (Array.getElem?_eq_some_iff.1 hb).1).trans hb, h.size⟩
theorem KQ.row {cm : Nat} {w w' : World} {row : Option Nat} (hg : w.grownBy w' row) (hr : ∀ g, row = some g → ∃ o, w.heap[g]? = some o ∧ ¬ keepO cm g o) : KQ cm w w' :=
  ⟨fun b o hb ho => (hg.block b (Array.getElem?_eq_some_iff.1 hb).1 fun e => by
    obtain ⟨o', h1, h2⟩ := hr b e.symm
    rw [hb] at h1
    injection h1 with h1
    subst h1
    exact h2 ho).trans hb, hg.size⟩
theorem KQ.live {cm : Nat} {w w' : World} {Bd : Nat} {rv : Rows} (h : Live w Bd rv) {i : Nat} (hi : i < 15) (hg : w.grownBy w' (rv i).v.ownBlock) : KQ cm w w' :=
  KQ.row hg fun g e => by
    obtain ⟨cur, hb⟩ := ownBlock_bk (h.own i hi) e
    exact ⟨_, hb, fun hk => by
      have := hk.1
      rw [kT_data] at this
      cases this⟩
theorem KQ.par {cm : Nat} {w : World} {p : Nat} {cs : Array Value} (h : Bk w p tPar cs) (j : Nat) (u : Value) : KQ cm w (w.setCell ⟨p, j, none⟩ u) :=
  KQ.row (grown_set w ⟨p, j, none⟩ u) fun g e => by
    injection e with e
    subst e
    exact ⟨_, h, fun hk => hk.2 rfl⟩
theorem KQ.rdT {cm : Nat} {w w' : World} (h : KQ cm w w') {t : TypeId} {A : Option Addr} {n size : Nat} {cs : List Value} (hr : RdT w t A n size cs) (h1 : dataT t = false) (h2 : t ≠ tPar) : RdT w' t A n size cs :=
  ⟨hr.1, fun hn => by
    obtain ⟨b, o, cur, e, hb, hc⟩ := hr.2 hn
    exact ⟨b, o, cur, e, h.same b _ hb ⟨h1, h2⟩, hc⟩⟩
theorem KQ.bk {cm : Nat} {w w' : World} (h : KQ cm w w') {g : Nat} {t : TypeId} {cs : Array Value} (hb : Bk w g t cs) (h1 : dataT t = false) (h2 : t ≠ tPar) : Bk w' g t cs := h.same g _ hb ⟨h1, h2⟩
/-- what a statement leaves -/
def StPost (w : World) (Bd p gm cm : Nat) (gl : Gl) (K : Nat) (r : Ans) (e : Ending) (w' : World) : Prop :=
  Below Bd w w' ∧ match r with
    | .ok s' => e = .returned (.int .i64 0) ∧ KQ cm w w' ∧ ∃ rv', PSt w' Bd p gm cm gl s' rv' K
    | .error c => e = .returned (.int .i64 c)
theorem StPost.bad {w w' : World} {Bd p gm cm : Nat} {gl : Gl} {K : Nat} {r : Ans} {c : Int} (hr : r = .error c) (hb : Below Bd w w') : StPost w Bd p gm cm gl K r (.returned (.int .i64 c)) w' := by
  subst hr
  exact ⟨hb, rfl⟩
theorem StPost.good {w w' : World} {Bd p gm cm : Nat} {gl : Gl} {K : Nat} {r : Ans} {s' : PS} {rv' : Rows} (hr : r = .ok s') (hb : Below Bd w w') (hk : KQ cm w w') (h : PSt w' Bd p gm cm gl s' rv' K) : StPost w Bd p gm cm gl K r (.returned (.int .i64 0)) w' := by
  subst hr
  exact ⟨hb, rfl, hk, rv', h⟩
/-- a statement that keeps its first error, and writes all the same -/
theorem StPost.fin {w w' : World} {Bd p gm cm : Nat} {gl : Gl} {K : Nat} {s' : PS} {rv' : Rows} {err : Int} {r : Ans} (hr : r = fin err s') (hb : Below Bd w w') (hk : KQ cm w w') (h : PSt w' Bd p gm cm gl s' rv' K) : StPost w Bd p gm cm gl K r (.returned (.int .i64 err)) w' := by
  unfold Proofs.YtkijckccfookeaaGreatDoor.fin at hr
  split at hr
  · rename_i h0
    subst h0
    exact StPost.good hr hb hk h
  · exact StPost.bad hr hb
/-- one element more, in a region that draws its order -/
theorem run_push {e t size : Nat} (E : ElT e t size) (ty : TypeId) (w1 : World) (base n c : Nat) (A : Option Addr) (xs : List Value) (news : Array Value) (hnl : news.size = size) (hown : w1.ownsRow base e size (.slice A n c) n xs) (h1 : ∀ u ∈ news.toList, u.oneCell' = true) (hn : n ≤ 10000000000) (hb : base ≤ w1.heap.size) :
    ∃ A' c' w', (Builtin.append_ #[t, t] ty #[.slice A n c, .slice (some ⟨w1.heap.size, 0, none⟩) 1 1]).run Tryz.prog ((w1.alloc (.cells news e)).drew) = .ok (.slice A' (n + 1) c') w' ∧ w'.ownsRow base e size (.slice A' (n + 1) c') (n + 1) (xs ++ news.toList) ∧ w1.grownBy w' (Value.slice A n c).ownBlock ∧ Loc w1 (.slice A n c) (.slice A' (n + 1) c') := by
  obtain ⟨A', c', w', hrun, h2, h3, h4⟩ := run_app E ty ((w1.alloc (.cells news e)).drew) base n c A xs (hown.alloc _).drew (w1.heap.size + 1) (some ⟨w1.heap.size, 0, none⟩) 1 1 news.toList (Rd.drew (Rd.newAt _ _ rfl news e 1 size (by omega))) h1 (by omega) (by simp; omega)
  refine ⟨A', c', w', hrun, h2, ⟨h3.os, h3.tape, h3.output, Nat.le_trans (by simp) h3.size, fun i hi hne => ?_⟩, h4.imp id fun h5 g hg => by have := h5 g hg; simp at this; omega⟩
  exact (h3.block i (by simp; omega) hne).trans (Below.heap_alloc _ _ _ hi)
/-- .. some elements more -/
theorem run_more {e t size : Nat} (E : ElT e t size) (ty : TypeId) (w1 : World) (base n c : Nat) (A : Option Addr) (xs : List Value) (Bd : Nat) (A2 : Option Addr) (m c2 : Nat) (news : List Value) (hown : w1.ownsRow base e size (.slice A n c) n xs) (hr : Rd w1 Bd A2 m size news) (h1 : ∀ u ∈ news, u.oneCell' = true) (hn : n + m ≤ 100000000000) (hb : base ≤ w1.heap.size) :
    ∃ A' c' w', (Builtin.append_ #[t, t] ty #[.slice A n c, .slice A2 m c2]).run Tryz.prog w1 = .ok (.slice A' (n + m) c') w' ∧ w'.ownsRow base e size (.slice A' (n + m) c') (n + m) (xs ++ news) ∧ w1.grownBy w' (Value.slice A n c).ownBlock ∧ Loc w1 (.slice A n c) (.slice A' (n + m) c') :=
  run_app E ty w1 base n c A xs hown Bd A2 m c2 news hr h1 hn hb
section
variable {w w2 : World} {Bd p gm cm : Nat} {gl : Gl} {s s' : PS} {rv : Rows} {K : Nat}
theorem few_upd (h : ∀ j, j < 15 → (rv j).n ≤ K) {i : Nat} {r : RV} {K' : Nat} (hK : K ≤ K') (hn : r.n ≤ K') : ∀ j, j < 15 → (upd rv i r j).n ≤ K' := by
  intro j hj
  by_cases hji : j = i
  · subst hji; rw [upd_same]; exact hn
  · rw [upd_other _ _ hji]; exact Nat.le_trans (h j hj) hK
/-- row i is written on, then the parser's cell -/
theorem PSt.push (h : PSt w Bd p gm cm gl s rv K) {i : Nat} (hi : i < 15) {v' : Value} {n' : Nat} {xs' : List Value} (hg : w.grownBy w2 (rv i).v.ownBlock) (ho : w2.ownsRow Bd (kT i) (kS i) v' n' xs') (hl : Loc w (rv i).v v')
    (hf : FD w2 (Fz w2 (upd rv i ⟨v', n', xs'⟩)) (upd rv i ⟨v', n', xs'⟩) s'.f) (hc : s'.cls = s.cls) {j : Nat} (hcs : (parCells s rv gm cm).setIfInBounds j v' = parCells s' (upd rv i ⟨v', n', xs'⟩) gm cm) {K' : Nat} (hK : K ≤ K') (hn : n' ≤ K') :
    PSt (w2.setCell ⟨p, j, none⟩ v') Bd p gm cm gl s' (upd rv i ⟨v', n', xs'⟩) K' ∧ KQ cm w (w2.setCell ⟨p, j, none⟩ v') := by
  obtain ⟨h1, h2, h3, h4, h5⟩ := h.row hi (r := ⟨v', n', xs'⟩) hg ho hl
  refine ⟨PSt.parW h1 h2 hf h4 h.glI (by rw [hc]; exact h5) (few_upd h.few hK hn) h.low j v' hcs, (KQ.live h.live hi hg).trans (KQ.par h1 j v')⟩
/-- .. and nothing below is touched -/
theorem PSt.push_low (h : PSt w Bd p gm cm gl s rv K) {i : Nat} (hi : i < 15) (hg : w.grownBy w2 (rv i).v.ownBlock) (j : Nat) (u : Value) (hB : Bd ≤ w.heap.size) : Below Bd w (w2.setCell ⟨p, j, none⟩ u) := by
  refine ((Below.refl Bd w).grown hg hB (fun g e => ((h.live.own i hi).lt g e).1)).setCell ?_ _
  exact h.low.1
theorem PSt.slice (h : PSt w Bd p gm cm gl s rv K) {i : Nat} (hi : i < 15) : ∃ A c, (rv i).v = .slice A (rv i).n c := own_slice (h.live.own i hi)
theorem PSt.size (h : PSt w Bd p gm cm gl s rv K) : Bd ≤ w.heap.size := by have := h.par.lt; have := h.low.1; omega
end
end Go.Proofs.YtkijckccfookeaaGreatDoor
/- parse: one thing more in a row of the font's. Printed by gen_pagg.py. -/
namespace Go.Proofs.YtkijckccfookeaaGreatDoor
open Go.RowKit

theorem RowD.app {α : Type} {R : Rel α} {size : Nat} {w : World} {S : Bs} {r : RV} {xs ys : List α} {v : Value} {n m : Nat} {cs : List Value} (h : RowD R size w S r xs) (hn : n = r.n + m) (hm : m = ys.length) (hf : Fl R size w S cs ys) : RowD R size w S ⟨v, n, r.xs ++ cs⟩ (xs ++ ys) :=
  ⟨by simp [hn, hm, h.1], h.2.append hf⟩
section
variable {w w2 : World} {Bd p gm cm : Nat} {gl : Gl} {s : PS} {rv : Rows} {K : Nat}
theorem FD.up_chr {f : Fnt} {r : RV} {l : List Chr} (h : FD w (Fz w rv) rv f) (t : Tr w rv w2 (upd rv 1 r)) (hr : RowD ChrR 2 w2 (Fz w2 (upd rv 1 r)) r l) : FD w2 (Fz w2 (upd rv 1 r)) (upd rv 1 r) { f with chars := l } := by
  have k := h.tr t
  exact ⟨k.unit, k.gly, hr, k.lks, k.fts, k.axs, k.rgs, k.fns, k.cvt⟩
theorem PSt.more_chr (h : PSt w Bd p gm cm gl s rv K) {v' : Value} {m : Nat} {cs : List Value} {ys : List Chr} (hg : w.grownBy w2 (rv 1).v.ownBlock) (ho : w2.ownsRow Bd (kT 1) (kS 1) v' ((rv 1).n + m) ((rv 1).xs ++ cs)) (hl : Loc w (rv 1).v v')
    (hm : m = ys.length) (hf : Fl ChrR 2 w (Fz w rv) cs ys) {K' : Nat} (hK : K + m ≤ K') :
    PSt (w2.setCell ⟨p, 2, none⟩ v') Bd p gm cm gl { s with f := { s.f with chars := s.f.chars ++ ys } } (upd rv 1 ⟨v', (rv 1).n + m, (rv 1).xs ++ cs⟩) K' ∧ KQ cm w (w2.setCell ⟨p, 2, none⟩ v') := by
  have ht : Tr w rv w2 (upd rv 1 ⟨v', (rv 1).n + m, (rv 1).xs ++ cs⟩) := Tr.row (by decide) hg hl
  exact PSt.push (s' := { s with f := { s.f with chars := s.f.chars ++ ys } }) h (i := 1) (by decide) hg ho hl (h.fnt.up_chr ht ((h.fnt.chr.tr ChrR.ok ht).app rfl hm (ht.fl ChrR.ok hf))) rfl rfl (Nat.le_trans (Nat.le_add_right _ _) hK) (Nat.le_trans (Nat.add_le_add_right (h.few 1 (by decide)) m) hK)
theorem FD.up_fts {f : Fnt} {r : RV} {l : List Feature} (h : FD w (Fz w rv) rv f) (t : Tr w rv w2 (upd rv 3 r)) (hr : RowD FeatureR 2 w2 (Fz w2 (upd rv 3 r)) r l) : FD w2 (Fz w2 (upd rv 3 r)) (upd rv 3 r) { f with features := l } := by
  have k := h.tr t
  exact ⟨k.unit, k.gly, k.chr, k.lks, hr, k.axs, k.rgs, k.fns, k.cvt⟩
theorem PSt.more_fts (h : PSt w Bd p gm cm gl s rv K) {v' : Value} {m : Nat} {cs : List Value} {ys : List Feature} (hg : w.grownBy w2 (rv 3).v.ownBlock) (ho : w2.ownsRow Bd (kT 3) (kS 3) v' ((rv 3).n + m) ((rv 3).xs ++ cs)) (hl : Loc w (rv 3).v v')
    (hm : m = ys.length) (hf : Fl FeatureR 2 w (Fz w rv) cs ys) {K' : Nat} (hK : K + m ≤ K') :
    PSt (w2.setCell ⟨p, 4, none⟩ v') Bd p gm cm gl { s with f := { s.f with features := s.f.features ++ ys } } (upd rv 3 ⟨v', (rv 3).n + m, (rv 3).xs ++ cs⟩) K' ∧ KQ cm w (w2.setCell ⟨p, 4, none⟩ v') := by
  have ht : Tr w rv w2 (upd rv 3 ⟨v', (rv 3).n + m, (rv 3).xs ++ cs⟩) := Tr.row (by decide) hg hl
  exact PSt.push (s' := { s with f := { s.f with features := s.f.features ++ ys } }) h (i := 3) (by decide) hg ho hl (h.fnt.up_fts ht ((h.fnt.fts.tr FeatureR.ok ht).app rfl hm (ht.fl FeatureR.ok hf))) rfl rfl (Nat.le_trans (Nat.le_add_right _ _) hK) (Nat.le_trans (Nat.add_le_add_right (h.few 3 (by decide)) m) hK)
theorem FD.up_axs {f : Fnt} {r : RV} {l : List Axis} (h : FD w (Fz w rv) rv f) (t : Tr w rv w2 (upd rv 4 r)) (hr : RowD AxisR 4 w2 (Fz w2 (upd rv 4 r)) r l) : FD w2 (Fz w2 (upd rv 4 r)) (upd rv 4 r) { f with axes := l } := by
  have k := h.tr t
  exact ⟨k.unit, k.gly, k.chr, k.lks, k.fts, hr, k.rgs, k.fns, k.cvt⟩
theorem PSt.more_axs (h : PSt w Bd p gm cm gl s rv K) {v' : Value} {m : Nat} {cs : List Value} {ys : List Axis} (hg : w.grownBy w2 (rv 4).v.ownBlock) (ho : w2.ownsRow Bd (kT 4) (kS 4) v' ((rv 4).n + m) ((rv 4).xs ++ cs)) (hl : Loc w (rv 4).v v')
    (hm : m = ys.length) (hf : Fl AxisR 4 w (Fz w rv) cs ys) {K' : Nat} (hK : K + m ≤ K') :
    PSt (w2.setCell ⟨p, 5, none⟩ v') Bd p gm cm gl { s with f := { s.f with axes := s.f.axes ++ ys } } (upd rv 4 ⟨v', (rv 4).n + m, (rv 4).xs ++ cs⟩) K' ∧ KQ cm w (w2.setCell ⟨p, 5, none⟩ v') := by
  have ht : Tr w rv w2 (upd rv 4 ⟨v', (rv 4).n + m, (rv 4).xs ++ cs⟩) := Tr.row (by decide) hg hl
  exact PSt.push (s' := { s with f := { s.f with axes := s.f.axes ++ ys } }) h (i := 4) (by decide) hg ho hl (h.fnt.up_axs ht ((h.fnt.axs.tr AxisR.ok ht).app rfl hm (ht.fl AxisR.ok hf))) rfl rfl (Nat.le_trans (Nat.le_add_right _ _) hK) (Nat.le_trans (Nat.add_le_add_right (h.few 4 (by decide)) m) hK)
theorem FD.up_rgs {f : Fnt} {r : RV} {l : List Region} (h : FD w (Fz w rv) rv f) (t : Tr w rv w2 (upd rv 5 r)) (hr : RowD RegionR 1 w2 (Fz w2 (upd rv 5 r)) r l) : FD w2 (Fz w2 (upd rv 5 r)) (upd rv 5 r) { f with regions := l } := by
  have k := h.tr t
  exact ⟨k.unit, k.gly, k.chr, k.lks, k.fts, k.axs, hr, k.fns, k.cvt⟩
theorem PSt.more_rgs (h : PSt w Bd p gm cm gl s rv K) {v' : Value} {m : Nat} {cs : List Value} {ys : List Region} (hg : w.grownBy w2 (rv 5).v.ownBlock) (ho : w2.ownsRow Bd (kT 5) (kS 5) v' ((rv 5).n + m) ((rv 5).xs ++ cs)) (hl : Loc w (rv 5).v v')
    (hm : m = ys.length) (hf : Fl RegionR 1 w (Fz w rv) cs ys) {K' : Nat} (hK : K + m ≤ K') :
    PSt (w2.setCell ⟨p, 6, none⟩ v') Bd p gm cm gl { s with f := { s.f with regions := s.f.regions ++ ys } } (upd rv 5 ⟨v', (rv 5).n + m, (rv 5).xs ++ cs⟩) K' ∧ KQ cm w (w2.setCell ⟨p, 6, none⟩ v') := by
  have ht : Tr w rv w2 (upd rv 5 ⟨v', (rv 5).n + m, (rv 5).xs ++ cs⟩) := Tr.row (by decide) hg hl
  exact PSt.push (s' := { s with f := { s.f with regions := s.f.regions ++ ys } }) h (i := 5) (by decide) hg ho hl (h.fnt.up_rgs ht ((h.fnt.rgs.tr RegionR.ok ht).app rfl hm (ht.fl RegionR.ok hf))) rfl rfl (Nat.le_trans (Nat.le_add_right _ _) hK) (Nat.le_trans (Nat.add_le_add_right (h.few 5 (by decide)) m) hK)
theorem FD.up_fns {f : Fnt} {r : RV} {l : List (List Ins)} (h : FD w (Fz w rv) rv f) (t : Tr w rv w2 (upd rv 6 r)) (hr : RowD CodeR 1 w2 (Fz w2 (upd rv 6 r)) r l) : FD w2 (Fz w2 (upd rv 6 r)) (upd rv 6 r) { f with funcs := l } := by
  have k := h.tr t
  exact ⟨k.unit, k.gly, k.chr, k.lks, k.fts, k.axs, k.rgs, hr, k.cvt⟩
theorem PSt.more_fns (h : PSt w Bd p gm cm gl s rv K) {v' : Value} {m : Nat} {cs : List Value} {ys : List (List Ins)} (hg : w.grownBy w2 (rv 6).v.ownBlock) (ho : w2.ownsRow Bd (kT 6) (kS 6) v' ((rv 6).n + m) ((rv 6).xs ++ cs)) (hl : Loc w (rv 6).v v')
    (hm : m = ys.length) (hf : Fl CodeR 1 w (Fz w rv) cs ys) {K' : Nat} (hK : K + m ≤ K') :
    PSt (w2.setCell ⟨p, 7, none⟩ v') Bd p gm cm gl { s with f := { s.f with funcs := s.f.funcs ++ ys } } (upd rv 6 ⟨v', (rv 6).n + m, (rv 6).xs ++ cs⟩) K' ∧ KQ cm w (w2.setCell ⟨p, 7, none⟩ v') := by
  have ht : Tr w rv w2 (upd rv 6 ⟨v', (rv 6).n + m, (rv 6).xs ++ cs⟩) := Tr.row (by decide) hg hl
  exact PSt.push (s' := { s with f := { s.f with funcs := s.f.funcs ++ ys } }) h (i := 6) (by decide) hg ho hl (h.fnt.up_fns ht ((h.fnt.fns.tr CodeR.ok ht).app rfl hm (ht.fl CodeR.ok hf))) rfl rfl (Nat.le_trans (Nat.le_add_right _ _) hK) (Nat.le_trans (Nat.add_le_add_right (h.few 6 (by decide)) m) hK)
theorem FD.up_cvt {f : Fnt} {r : RV} {l : List Int} (h : FD w (Fz w rv) rv f) (t : Tr w rv w2 (upd rv 7 r)) (hr : RowD IntR 1 w2 (Fz w2 (upd rv 7 r)) r l) : FD w2 (Fz w2 (upd rv 7 r)) (upd rv 7 r) { f with cvt := l } := by
  have k := h.tr t
  exact ⟨k.unit, k.gly, k.chr, k.lks, k.fts, k.axs, k.rgs, k.fns, hr⟩
theorem PSt.more_cvt (h : PSt w Bd p gm cm gl s rv K) {v' : Value} {m : Nat} {cs : List Value} {ys : List Int} (hg : w.grownBy w2 (rv 7).v.ownBlock) (ho : w2.ownsRow Bd (kT 7) (kS 7) v' ((rv 7).n + m) ((rv 7).xs ++ cs)) (hl : Loc w (rv 7).v v')
    (hm : m = ys.length) (hf : Fl IntR 1 w (Fz w rv) cs ys) {K' : Nat} (hK : K + m ≤ K') :
    PSt (w2.setCell ⟨p, 8, none⟩ v') Bd p gm cm gl { s with f := { s.f with cvt := s.f.cvt ++ ys } } (upd rv 7 ⟨v', (rv 7).n + m, (rv 7).xs ++ cs⟩) K' ∧ KQ cm w (w2.setCell ⟨p, 8, none⟩ v') := by
  have ht : Tr w rv w2 (upd rv 7 ⟨v', (rv 7).n + m, (rv 7).xs ++ cs⟩) := Tr.row (by decide) hg hl
  exact PSt.push (s' := { s with f := { s.f with cvt := s.f.cvt ++ ys } }) h (i := 7) (by decide) hg ho hl (h.fnt.up_cvt ht ((h.fnt.cvt.tr IntR.ok ht).app rfl hm (ht.fl IntR.ok hf))) rfl rfl (Nat.le_trans (Nat.le_add_right _ _) hK) (Nat.le_trans (Nat.add_le_add_right (h.few 7 (by decide)) m) hK)
end
end Go.Proofs.YtkijckccfookeaaGreatDoor
