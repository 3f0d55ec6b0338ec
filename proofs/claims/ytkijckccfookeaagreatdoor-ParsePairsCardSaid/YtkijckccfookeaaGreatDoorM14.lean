/- parse: what a statement leaves; a row of the parser's written on. -/
import Derived.Test.YtkijckccfookeaaGreatDoorM13
import Derived.BigRegion
namespace Go.Proofs.YtkijckccfookeaaGreatDoor
open Go.RowKit

/-- objects that statements leave alone -/
def keepO (cm b : Nat) : Obj → Prop
  | .cells _ t _ => dataT t = false ∧ t ≠ tPar
  | .map _ _ => b ≠ cm
  | _ => True
structure KQ (cm : Nat) (w w' : World) : Prop where
  same : ∀ (b : Nat) (o : Obj), w.heap[b]? = some o → keepO cm b o → w'.heap[b]? = some o
  size : w.heap.size ≤ w'.heap.size
theorem KQ.refl (cm : Nat) (w : World) : KQ cm w w := ⟨fun _ _ h _ => h, Nat.le_refl _⟩
theorem KQ.trans {cm : Nat} {a b c : World} (h : KQ cm a b) (k : KQ cm b c) : KQ cm a c := ⟨fun x o hx ho => k.same x o (h.same x o hx ho) ho, Nat.le_trans h.size k.size⟩
theorem KQ.below {cm : Nat} {w w' : World} (h : Below w.heap.size w w') : KQ cm w w' := ⟨fun b o hb _ => (h.block b (Array.getElem?_eq_some_iff.1 hb).1).trans hb, h.size⟩
theorem KQ.row {cm : Nat} {w w' : World} {row : Option Nat} (hg : w.grownBy w' row) (hr : ∀ g, row = some g → ∃ o, w.heap[g]? = some o ∧ ¬ keepO cm g o) : KQ cm w w' :=
  ⟨fun b o hb ho => (hg.block b (Array.getElem?_eq_some_iff.1 hb).1 fun e => by
    obtain ⟨o', h1, h2⟩ := hr b e.symm
    rw [hb] at h1
    injection h1 with h1
    subst h1
    exact h2 ho).trans hb, hg.size⟩
theorem KQ.live {cm : Nat} {w w' : World} {Bd : Nat} {rv : Rows} (h : Live w Bd rv) {i : Nat} (hi : i < 15) (hg : w.grownBy w' (rv i).v.ownBlock) : KQ cm w w' :=
  KQ.row hg fun g e => by
    obtain ⟨cur, hb⟩ := ownBlock_bk (h.own i hi) e
    exact ⟨_, hb, fun hk => by
      have := hk.1
      rw [kT_data] at this
      cases this⟩
theorem KQ.par {cm : Nat} {w : World} {p : Nat} {cs : Array Value} (h : Bk w p tPar cs) (j : Nat) (u : Value) : KQ cm w (w.setCell ⟨p, j, none⟩ u) :=
  KQ.row (grown_set w ⟨p, j, none⟩ u) fun g e => by
    injection e with e
    subst e
    exact ⟨_, h, fun hk => hk.2 rfl⟩
theorem KQ.rdT {cm : Nat} {w w' : World} (h : KQ cm w w') {t : TypeId} {A : Option Addr} {n size : Nat} {cs : List Value} (hr : RdT w t A n size cs) (h1 : dataT t = false) (h2 : t ≠ tPar) : RdT w' t A n size cs :=
  ⟨hr.1, fun hn => by
    obtain ⟨b, o, cur, e, hb, hc⟩ := hr.2 hn
    exact ⟨b, o, cur, e, h.same b _ hb ⟨h1, h2⟩, hc⟩⟩
theorem KQ.bk {cm : Nat} {w w' : World} (h : KQ cm w w') {g : Nat} {t : TypeId} {cs : Array Value} (hb : Bk w g t cs) (h1 : dataT t = false) (h2 : t ≠ tPar) : Bk w' g t cs := h.same g _ hb ⟨h1, h2⟩
/-- what a statement leaves -/
def StPost (w : World) (Bd p gm cm : Nat) (gl : Gl) (K : Nat) (r : Ans) (e : Ending) (w' : World) : Prop :=
  Below Bd w w' ∧ match r with
    | .ok s' => e = .returned (.int .i64 0) ∧ KQ cm w w' ∧ ∃ rv', PSt w' Bd p gm cm gl s' rv' K
    | .error c => e = .returned (.int .i64 c)
theorem StPost.bad {w w' : World} {Bd p gm cm : Nat} {gl : Gl} {K : Nat} {r : Ans} {c : Int} (hr : r = .error c) (hb : Below Bd w w') : StPost w Bd p gm cm gl K r (.returned (.int .i64 c)) w' := by
  subst hr
  exact ⟨hb, rfl⟩
theorem StPost.good {w w' : World} {Bd p gm cm : Nat} {gl : Gl} {K : Nat} {r : Ans} {s' : PS} {rv' : Rows} (hr : r = .ok s') (hb : Below Bd w w') (hk : KQ cm w w') (h : PSt w' Bd p gm cm gl s' rv' K) : StPost w Bd p gm cm gl K r (.returned (.int .i64 0)) w' := by
  subst hr
  exact ⟨hb, rfl, hk, rv', h⟩
/-- a statement that keeps its first error, and writes all the same -/
theorem StPost.fin {w w' : World} {Bd p gm cm : Nat} {gl : Gl} {K : Nat} {s' : PS} {rv' : Rows} {err : Int} {r : Ans} (hr : r = fin err s') (hb : Below Bd w w') (hk : KQ cm w w') (h : PSt w' Bd p gm cm gl s' rv' K) : StPost w Bd p gm cm gl K r (.returned (.int .i64 err)) w' := by
  unfold Proofs.YtkijckccfookeaaGreatDoor.fin at hr
  split at hr
  · rename_i h0
    subst h0
    exact StPost.good hr hb hk h
  · exact StPost.bad hr hb
/-- one element more, in a region that draws its order -/
theorem run_push {e t size : Nat} (E : ElT e t size) (ty : TypeId) (w1 : World) (base n c : Nat) (A : Option Addr) (xs : List Value) (news : Array Value) (hnl : news.size = size) (hown : w1.ownsRow base e size (.slice A n c) n xs) (h1 : ∀ u ∈ news.toList, u.oneCell' = true) (hn : n ≤ 10000000000) (hb : base ≤ w1.heap.size) :
    ∃ A' c' w', (Builtin.append_ #[t, t] ty #[.slice A n c, .slice (some ⟨w1.heap.size, 0, none⟩) 1 1]).run Tryz.prog ((w1.alloc (.cells news e)).drew) = .ok (.slice A' (n + 1) c') w' ∧ w'.ownsRow base e size (.slice A' (n + 1) c') (n + 1) (xs ++ news.toList) ∧ w1.grownBy w' (Value.slice A n c).ownBlock ∧ Loc w1 (.slice A n c) (.slice A' (n + 1) c') := by
  obtain ⟨A', c', w', hrun, h2, h3, h4⟩ := run_app E ty ((w1.alloc (.cells news e)).drew) base n c A xs (hown.alloc _).drew (w1.heap.size + 1) (some ⟨w1.heap.size, 0, none⟩) 1 1 news.toList (Rd.drew (Rd.newAt _ _ rfl news e 1 size (by omega))) h1 (by omega) (by simp; omega)
  refine ⟨A', c', w', hrun, h2, ⟨h3.os, h3.tape, h3.output, Nat.le_trans (by simp) h3.size, fun i hi hne => ?_⟩, h4.imp id fun h5 g hg => by have := h5 g hg; simp at this; omega⟩
  exact (h3.block i (by simp; omega) hne).trans (Below.heap_alloc _ _ _ hi)
/-- .. some elements more -/
theorem run_more {e t size : Nat} (E : ElT e t size) (ty : TypeId) (w1 : World) (base n c : Nat) (A : Option Addr) (xs : List Value) (Bd : Nat) (A2 : Option Addr) (m c2 : Nat) (news : List Value) (hown : w1.ownsRow base e size (.slice A n c) n xs) (hr : Rd w1 Bd A2 m size news) (h1 : ∀ u ∈ news, u.oneCell' = true) (hn : n + m ≤ 100000000000) (hb : base ≤ w1.heap.size) :
    ∃ A' c' w', (Builtin.append_ #[t, t] ty #[.slice A n c, .slice A2 m c2]).run Tryz.prog w1 = .ok (.slice A' (n + m) c') w' ∧ w'.ownsRow base e size (.slice A' (n + m) c') (n + m) (xs ++ news) ∧ w1.grownBy w' (Value.slice A n c).ownBlock ∧ Loc w1 (.slice A n c) (.slice A' (n + m) c') :=
  run_app E ty w1 base n c A xs hown Bd A2 m c2 news hr h1 hn hb
section
variable {w w2 : World} {Bd p gm cm : Nat} {gl : Gl} {s s' : PS} {rv : Rows} {K : Nat}
theorem few_upd (h : ∀ j, j < 15 → (rv j).n ≤ K) {i : Nat} {r : RV} {K' : Nat} (hK : K ≤ K') (hn : r.n ≤ K') : ∀ j, j < 15 → (upd rv i r j).n ≤ K' := by
  intro j hj
  by_cases hji : j = i
  · subst hji; rw [upd_same]; exact hn
  · rw [upd_other _ _ hji]; exact Nat.le_trans (h j hj) hK
/-- row i is written on, then the parser's cell -/
theorem PSt.push (h : PSt w Bd p gm cm gl s rv K) {i : Nat} (hi : i < 15) {v' : Value} {n' : Nat} {xs' : List Value} (hg : w.grownBy w2 (rv i).v.ownBlock) (ho : w2.ownsRow Bd (kT i) (kS i) v' n' xs') (hl : Loc w (rv i).v v')
    (hf : FD w2 (Fz w2 (upd rv i ⟨v', n', xs'⟩)) (upd rv i ⟨v', n', xs'⟩) s'.f) (hc : s'.cls = s.cls) {j : Nat} (hcs : (parCells s rv gm cm).setIfInBounds j v' = parCells s' (upd rv i ⟨v', n', xs'⟩) gm cm) {K' : Nat} (hK : K ≤ K') (hn : n' ≤ K') :
    PSt (w2.setCell ⟨p, j, none⟩ v') Bd p gm cm gl s' (upd rv i ⟨v', n', xs'⟩) K' ∧ KQ cm w (w2.setCell ⟨p, j, none⟩ v') := by
  obtain ⟨h1, h2, h3, h4, h5⟩ := h.row hi (r := ⟨v', n', xs'⟩) hg ho hl
  refine ⟨PSt.parW h1 h2 hf h4 h.glI (by rw [hc]; exact h5) (few_upd h.few hK hn) h.low j v' hcs, (KQ.live h.live hi hg).trans (KQ.par h1 j v')⟩
/-- .. and nothing below is touched -/
theorem PSt.push_low (h : PSt w Bd p gm cm gl s rv K) {i : Nat} (hi : i < 15) (hg : w.grownBy w2 (rv i).v.ownBlock) (j : Nat) (u : Value) (hB : Bd ≤ w.heap.size) : Below Bd w (w2.setCell ⟨p, j, none⟩ u) := by
  refine ((Below.refl Bd w).grown hg hB (fun g e => ((h.live.own i hi).lt g e).1)).setCell ?_ _
  exact h.low.1
theorem PSt.slice (h : PSt w Bd p gm cm gl s rv K) {i : Nat} (hi : i < 15) : ∃ A c, (rv i).v = .slice A (rv i).n c := own_slice (h.live.own i hi)
theorem PSt.size (h : PSt w Bd p gm cm gl s rv K) : Bd ≤ w.heap.size := by have := h.par.lt; have := h.low.1; omega
end
end Go.Proofs.YtkijckccfookeaaGreatDoor
/- parse: one thing more in a row of the font's. Printed by gen_pagg.py. -/
namespace Go.Proofs.YtkijckccfookeaaGreatDoor
open Go.RowKit

theorem RowD.app {α : Type} {R : Rel α} {size : Nat} {w : World} {S : Bs} {r : RV} {xs ys : List α} {v : Value} {n m : Nat} {cs : List Value} (h : RowD R size w S r xs) (hn : n = r.n + m) (hm : m = ys.length) (hf : Fl R size w S cs ys) : RowD R size w S ⟨v, n, r.xs ++ cs⟩ (xs ++ ys) :=
  ⟨by simp [hn, hm, h.1], h.2.append hf⟩
section
variable {w w2 : World} {Bd p gm cm : Nat} {gl : Gl} {s : PS} {rv : Rows} {K : Nat}
theorem FD.up_chr {f : Fnt} {r : RV} {l : List Chr} (h : FD w (Fz w rv) rv f) (t : Tr w rv w2 (upd rv 1 r)) (hr : RowD ChrR 2 w2 (Fz w2 (upd rv 1 r)) r l) : FD w2 (Fz w2 (upd rv 1 r)) (upd rv 1 r) { f with chars := l } := by
  have k := h.tr t
  exact ⟨k.unit, k.gly, hr, k.lks, k.fts, k.axs, k.rgs, k.fns, k.cvt⟩
theorem PSt.more_chr (h : PSt w Bd p gm cm gl s rv K) {v' : Value} {m : Nat} {cs : List Value} {ys : List Chr} (hg : w.grownBy w2 (rv 1).v.ownBlock) (ho : w2.ownsRow Bd (kT 1) (kS 1) v' ((rv 1).n + m) ((rv 1).xs ++ cs)) (hl : Loc w (rv 1).v v')
    (hm : m = ys.length) (hf : Fl ChrR 2 w (Fz w rv) cs ys) {K' : Nat} (hK : K + m ≤ K') :
    PSt (w2.setCell ⟨p, 2, none⟩ v') Bd p gm cm gl { s with f := { s.f with chars := s.f.chars ++ ys } } (upd rv 1 ⟨v', (rv 1).n + m, (rv 1).xs ++ cs⟩) K' ∧ KQ cm w (w2.setCell ⟨p, 2, none⟩ v') := by
  have ht : Tr w rv w2 (upd rv 1 ⟨v', (rv 1).n + m, (rv 1).xs ++ cs⟩) := Tr.row (by decide) hg hl
  exact PSt.push (s' := { s with f := { s.f with chars := s.f.chars ++ ys } }) h (i := 1) (by decide) hg ho hl (h.fnt.up_chr ht ((h.fnt.chr.tr ChrR.ok ht).app rfl hm (ht.fl ChrR.ok hf))) rfl rfl (Nat.le_trans (Nat.le_add_right _ _) hK) (Nat.le_trans (Nat.add_le_add_right (h.few 1 (by decide)) m) hK)
theorem FD.up_fts {f : Fnt} {r : RV} {l : List Feature} (h : FD w (Fz w rv) rv f) (t : Tr w rv w2 (upd rv 3 r)) (hr : RowD FeatureR 2 w2 (Fz w2 (upd rv 3 r)) r l) : FD w2 (Fz w2 (upd rv 3 r)) (upd rv 3 r) { f with features := l } := by
  have k := h.tr t
  exact ⟨k.unit, k.gly, k.chr, k.lks, hr, k.axs, k.rgs, k.fns, k.cvt⟩
theorem PSt.more_fts (h : PSt w Bd p gm cm gl s rv K) {v' : Value} {m : Nat} {cs : List Value} {ys : List Feature} (hg : w.grownBy w2 (rv 3).v.ownBlock) (ho : w2.ownsRow Bd (kT 3) (kS 3) v' ((rv 3).n + m) ((rv 3).xs ++ cs)) (hl : Loc w (rv 3).v v')
    (hm : m = ys.length) (hf : Fl FeatureR 2 w (Fz w rv) cs ys) {K' : Nat} (hK : K + m ≤ K') :
    PSt (w2.setCell ⟨p, 4, none⟩ v') Bd p gm cm gl { s with f := { s.f with features := s.f.features ++ ys } } (upd rv 3 ⟨v', (rv 3).n + m, (rv 3).xs ++ cs⟩) K' ∧ KQ cm w (w2.setCell ⟨p, 4, none⟩ v') := by
  have ht : Tr w rv w2 (upd rv 3 ⟨v', (rv 3).n + m, (rv 3).xs ++ cs⟩) := Tr.row (by decide) hg hl
  exact PSt.push (s' := { s with f := { s.f with features := s.f.features ++ ys } }) h (i := 3) (by decide) hg ho hl (h.fnt.up_fts ht ((h.fnt.fts.tr FeatureR.ok ht).app rfl hm (ht.fl FeatureR.ok hf))) rfl rfl (Nat.le_trans (Nat.le_add_right _ _) hK) (Nat.le_trans (Nat.add_le_add_right (h.few 3 (by decide)) m) hK)
theorem FD.up_axs {f : Fnt} {r : RV} {l : List Axis} (h : FD w (Fz w rv) rv f) (t : Tr w rv w2 (upd rv 4 r)) (hr : RowD AxisR 4 w2 (Fz w2 (upd rv 4 r)) r l) : FD w2 (Fz w2 (upd rv 4 r)) (upd rv 4 r) { f with axes := l } := by
  have k := h.tr t
  exact ⟨k.unit, k.gly, k.chr, k.lks, k.fts, hr, k.rgs, k.fns, k.cvt⟩
theorem PSt.more_axs (h : PSt w Bd p gm cm gl s rv K) {v' : Value} {m : Nat} {cs : List Value} {ys : List Axis} (hg : w.grownBy w2 (rv 4).v.ownBlock) (ho : w2.ownsRow Bd (kT 4) (kS 4) v' ((rv 4).n + m) ((rv 4).xs ++ cs)) (hl : Loc w (rv 4).v v')
    (hm : m = ys.length) (hf : Fl AxisR 4 w (Fz w rv) cs ys) {K' : Nat} (hK : K + m ≤ K') :
    PSt (w2.setCell ⟨p, 5, none⟩ v') Bd p gm cm gl { s with f := { s.f with axes := s.f.axes ++ ys } } (upd rv 4 ⟨v', (rv 4).n + m, (rv 4).xs ++ cs⟩) K' ∧ KQ cm w (w2.setCell ⟨p, 5, none⟩ v') := by
  have ht : Tr w rv w2 (upd rv 4 ⟨v', (rv 4).n + m, (rv 4).xs ++ cs⟩) := Tr.row (by decide) hg hl
  exact PSt.push (s' := { s with f := { s.f with axes := s.f.axes ++ ys } }) h (i := 4) (by decide) hg ho hl (h.fnt.up_axs ht ((h.fnt.axs.tr AxisR.ok ht).app rfl hm (ht.fl AxisR.ok hf))) rfl rfl (Nat.le_trans (Nat.le_add_right _ _) hK) (Nat.le_trans (Nat.add_le_add_right (h.few 4 (by decide)) m) hK)
theorem FD.up_rgs {f : Fnt} {r : RV} {l : List Region} (h : FD w (Fz w rv) rv f) (t : Tr w rv w2 (upd rv 5 r)) (hr : RowD RegionR 1 w2 (Fz w2 (upd rv 5 r)) r l) : FD w2 (Fz w2 (upd rv 5 r)) (upd rv 5 r) { f with regions := l } := by
  have k := h.tr t
  exact ⟨k.unit, k.gly, k.chr, k.lks, k.fts, k.axs, hr, k.fns, k.cvt⟩
theorem PSt.more_rgs (h : PSt w Bd p gm cm gl s rv K) {v' : Value} {m : Nat} {cs : List Value} {ys : List Region} (hg : w.grownBy w2 (rv 5).v.ownBlock) (ho : w2.ownsRow Bd (kT 5) (kS 5) v' ((rv 5).n + m) ((rv 5).xs ++ cs)) (hl : Loc w (rv 5).v v')
    (hm : m = ys.length) (hf : Fl RegionR 1 w (Fz w rv) cs ys) {K' : Nat} (hK : K + m ≤ K') :
    PSt (w2.setCell ⟨p, 6, none⟩ v') Bd p gm cm gl { s with f := { s.f with regions := s.f.regions ++ ys } } (upd rv 5 ⟨v', (rv 5).n + m, (rv 5).xs ++ cs⟩) K' ∧ KQ cm w (w2.setCell ⟨p, 6, none⟩ v') := by
  have ht : Tr w rv w2 (upd rv 5 ⟨v', (rv 5).n + m, (rv 5).xs ++ cs⟩) := Tr.row (by decide) hg hl
  exact PSt.push (s' := { s with f := { s.f with regions := s.f.regions ++ ys } }) h (i := 5) (by decide) hg ho hl (h.fnt.up_rgs ht ((h.fnt.rgs.tr RegionR.ok ht).app rfl hm (ht.fl RegionR.ok hf))) rfl rfl (Nat.le_trans (Nat.le_add_right _ _) hK) (Nat.le_trans (Nat.add_le_add_right (h.few 5 (by decide)) m) hK)
theorem FD.up_fns {f : Fnt} {r : RV} {l : List (List Ins)} (h : FD w (Fz w rv) rv f) (t : Tr w rv w2 (upd rv 6 r)) (hr : RowD CodeR 1 w2 (Fz w2 (upd rv 6 r)) r l) : FD w2 (Fz w2 (upd rv 6 r)) (upd rv 6 r) { f with funcs := l } := by
  have k := h.tr t
  exact ⟨k.unit, k.gly, k.chr, k.lks, k.fts, k.axs, k.rgs, hr, k.cvt⟩
theorem PSt.more_fns (h : PSt w Bd p gm cm gl s rv K) {v' : Value} {m : Nat} {cs : List Value} {ys : List (List Ins)} (hg : w.grownBy w2 (rv 6).v.ownBlock) (ho : w2.ownsRow Bd (kT 6) (kS 6) v' ((rv 6).n + m) ((rv 6).xs ++ cs)) (hl : Loc w (rv 6).v v')
    (hm : m = ys.length) (hf : Fl CodeR 1 w (Fz w rv) cs ys) {K' : Nat} (hK : K + m ≤ K') :
    PSt (w2.setCell ⟨p, 7, none⟩ v') Bd p gm cm gl { s with f := { s.f with funcs := s.f.funcs ++ ys } } (upd rv 6 ⟨v', (rv 6).n + m, (rv 6).xs ++ cs⟩) K' ∧ KQ cm w (w2.setCell ⟨p, 7, none⟩ v') := by
  have ht : Tr w rv w2 (upd rv 6 ⟨v', (rv 6).n + m, (rv 6).xs ++ cs⟩) := Tr.row (by decide) hg hl
  exact PSt.push (s' := { s with f := { s.f with funcs := s.f.funcs ++ ys } }) h (i := 6) (by decide) hg ho hl (h.fnt.up_fns ht ((h.fnt.fns.tr CodeR.ok ht).app rfl hm (ht.fl CodeR.ok hf))) rfl rfl (Nat.le_trans (Nat.le_add_right _ _) hK) (Nat.le_trans (Nat.add_le_add_right (h.few 6 (by decide)) m) hK)
theorem FD.up_cvt {f : Fnt} {r : RV} {l : List Int} (h : FD w (Fz w rv) rv f) (t : Tr w rv w2 (upd rv 7 r)) (hr : RowD IntR 1 w2 (Fz w2 (upd rv 7 r)) r l) : FD w2 (Fz w2 (upd rv 7 r)) (upd rv 7 r) { f with cvt := l } := by
  have k := h.tr t
  exact ⟨k.unit, k.gly, k.chr, k.lks, k.fts, k.axs, k.rgs, k.fns, hr⟩
theorem PSt.more_cvt (h : PSt w Bd p gm cm gl s rv K) {v' : Value} {m : Nat} {cs : List Value} {ys : List Int} (hg : w.grownBy w2 (rv 7).v.ownBlock) (ho : w2.ownsRow Bd (kT 7) (kS 7) v' ((rv 7).n + m) ((rv 7).xs ++ cs)) (hl : Loc w (rv 7).v v')
    (hm : m = ys.length) (hf : Fl IntR 1 w (Fz w rv) cs ys) {K' : Nat} (hK : K + m ≤ K') :
    PSt (w2.setCell ⟨p, 8, none⟩ v') Bd p gm cm gl { s with f := { s.f with cvt := s.f.cvt ++ ys } } (upd rv 7 ⟨v', (rv 7).n + m, (rv 7).xs ++ cs⟩) K' ∧ KQ cm w (w2.setCell ⟨p, 8, none⟩ v') := by
  have ht : Tr w rv w2 (upd rv 7 ⟨v', (rv 7).n + m, (rv 7).xs ++ cs⟩) := Tr.row (by decide) hg hl
  exact PSt.push (s' := { s with f := { s.f with cvt := s.f.cvt ++ ys } }) h (i := 7) (by decide) hg ho hl (h.fnt.up_cvt ht ((h.fnt.cvt.tr IntR.ok ht).app rfl hm (ht.fl IntR.ok hf))) rfl rfl (Nat.le_trans (Nat.le_add_right _ _) hK) (Nat.le_trans (Nat.add_le_add_right (h.few 7 (by decide)) m) hK)
end
end Go.Proofs.YtkijckccfookeaaGreatDoor
/- parse: unit, axis. -/
namespace Go.Proofs.YtkijckccfookeaaGreatDoor
open Go.RowKit
attribute [-go_sem] Builtin.append_

/-- a line: its words lie in memory, and are not too long -/
structure LnAt (w : World) (A : Option Addr) (n : Nat) (ws : List P3) : Prop where
  rd : RdT w 124 A n 3 (c3s ws)
  len : ∀ x ∈ ws, x.2.2.length ≤ 1000000
  few : n ≤ 1000000000
theorem LnAt.length {w : World} {A : Option Addr} {n : Nat} {ws : List P3} (h : LnAt w A n ws) : ws.length = n := h.rd.rd.len3
/-- the text of a word -/
theorem LnAt.word {w : World} {A : Option Addr} {n : Nat} {ws : List P3} (h : LnAt w A n ws) {k : Nat} {t : B} (hk : (txts ws)[k]? = some t) {d : Nat} (hd : d = k * 3) :
    ∃ b o, A = some ⟨b, o, none⟩ ∧ b < w.heap.size ∧ w.cell? ⟨b, o + d + 2, none⟩ = some (.string ⟨t.toArray⟩) ∧ t.length ≤ 1000000 := by
  have hk2 := (List.getElem?_eq_some_iff.1 hk).1
  rw [txts_len, h.length] at hk2
  obtain ⟨b, o, x, y, z, e, hb, hp, q1, q2, q3⟩ := h.rd.rd.at3 hk2
  have hz : z = t := by
    have := hp.out
    simp only [txts, List.getElem?_map, this, Option.map_some, Option.some.injEq] at hk
    exact hk
  subst hz
  subst hd
  exact ⟨b, o, e, hb, q3, h.len _ (c3s_word hp.out)⟩
theorem numV_n9 (t : B) : N9 (numV t) := by
  unfold numV N9
  split
  · rename_i h
    have h2 := h
    rw [numD, Bool.and_eq_true, List.all_eq_true] at h2
    have h3 := valB_lt (unsign t) (fun c hc => h2.1 c hc)
    have h4 : (unsign t).length ≤ 9 := by
      have := h2.2
      simp at this
      exact this.2
    have h5 : 10 ^ (unsign t).length ≤ 10 ^ 9 := Nat.pow_le_pow_right (by omega) h4
    have h6 : (10 : Nat) ^ 9 = 1000000000 := rfl
    split <;> omega
  · omega
theorem N9.i64 {n : Int} (h : N9 n) : I64 n := ⟨by have := h.1; omega, by have := h.2; omega⟩
theorem numV_i64 (t : B) : I64 (numV t) := (numV_n9 t).i64
theorem below_rdr {w a b : World} {rb : Nat} (h : Below w.heap.size w a) (hg : a.grownBy b (some rb)) (hr : w.heap.size ≤ rb) : Below w.heap.size w b := h.grown hg h.size (fun k e => by cases e; exact hr)
theorem txts_cons {ws : List P3} {t : B} {l : List B} (h : txts ws = t :: l) : ws.length = l.length + 1 := by
  have := congrArg List.length h
  simpa [txts] using this
theorem rUnit_no (s : PS) (l : List B) (h : l.length ≠ 1) : rUnit s l = .error 22 := by
  unfold rUnit
  split
  · simp at h
  · rfl
set_option maxRecDepth 100000 in
set_option maxHeartbeats 2000000 in
theorem readUnit_ok (w : World) (Bd p gm cm : Nat) (gl : Gl) (s : PS) (rv : Rows) (K : Nat) (A : Option Addr) (n c : Nat) (ws : List P3) (t : B) (l : List B) (hP : PSt w Bd p gm cm gl s rv K) (hL : LnAt w A n ws) (hT : txts ws = t :: l) :
    Calls Tryz.prog 73 #[.pointer (some ⟨p, 0, none⟩), .slice A n c] w (StPost w Bd p gm cm gl (K + n) (rUnit s l)) := by
  have hn : n = l.length + 1 := by rw [← hL.length]; exact txts_cons hT
  have hB := hP.size
  by_cases h1 : l.length = 1
  · obtain ⟨t1, rfl⟩ : ∃ t1, l = [t1] := by
      match l, h1 with
      | [a], _ => exact ⟨a, rfl⟩
    obtain ⟨b, o, rfl, hb, q1, hz⟩ := hL.word (k := 1) (t := t1) (by rw [hT]; rfl) (d := 3) rfl
    simp only [List.length_cons, List.length_nil] at hn
    subst hn
    have HP := Lib.hid hP
    have hpb : p < w.heap.size := hP.par.lt
    have k9 : w.cell? ⟨p, 9, none⟩ = some (.bool s.unit) := hP.par.cell 9
    have k0 : w.cell? ⟨p, 0, none⟩ = some (.int .i64 s.f.unit) := hP.par.cell 0
    have f9 := hP.par.frozen 9
    have f0 := hP.par.frozen 0
    have hu : Hid (rUnit s [t1] = if eNum 0 t1 ≠ 0 then .error (eNum 0 t1) else if s.unit then .error 24 else .ok { s with unit := true, f := { s.f with unit := numV t1 } }) := rfl
    have hn1 := Lib.hid (fun w rb h => number_ok w rb p 0 t1 h hz)
    have HNV := Lib.hid (numV_i64 t1)
    clear hP hL hT h1 hz
    generalize numV t1 = nv at *
    generalize eNum 0 t1 = er at *
    by_cases he : er = 0
    · subst he
      cases hsu : s.unit with
      | true =>
        rw [hsu] at k9
        have HR : Hid (rUnit s [t1] = .error 24) := by show _ = _; rw [hu.out, hsu]; rfl
        clear hu hsu
        go_enter Tryz.func73, Tryz.ntmps73
        go_wp2_with (first
          | (go_at_call 121; refine (read_ok w p).mono ?_; rintro e w1 ⟨rfl, hr1, hb1⟩; obtain ⟨hc1, hf1⟩ := bcell hb1)
          | (go_at_call 122; refine (hn1.out w1 _ hr1).mono ?_; rintro e w2 ⟨rfl, hr2, hg2⟩; have hb2 := below_rdr hb1 hg2 (Nat.le_refl _); obtain ⟨hc2, hf2⟩ := bcell hb2; have k1 := Bk.cell hr2 1; simp only [List.getElem?_toArray, List.getElem?_cons_succ, List.getElem?_cons_zero] at k1))
        go_ret
        exact StPost.bad HR.out (hb2.mono hB)
      | false =>
        rw [hsu] at k9
        have HR : Hid (rUnit s [t1] = .ok { s with unit := true, f := { s.f with unit := nv } }) := by show _ = _; rw [hu.out, hsu]; rfl
        clear hu hsu
        go_enter Tryz.func73, Tryz.ntmps73
        go_wp2_with (first
          | (go_at_call 121; refine (read_ok w p).mono ?_; rintro e w1 ⟨rfl, hr1, hb1⟩; obtain ⟨hc1, hf1⟩ := bcell hb1)
          | (go_at_call 122; refine (hn1.out w1 _ hr1).mono ?_; rintro e w2 ⟨rfl, hr2, hg2⟩; have hb2 := below_rdr hb1 hg2 (Nat.le_refl _); obtain ⟨hc2, hf2⟩ := bcell hb2; have k1 := Bk.cell hr2 1; simp only [List.getElem?_toArray, List.getElem?_cons_succ, List.getElem?_cons_zero] at k1))
        go_ret
        have hP2 := HP.out.below hb2
        refine StPost.good HR.out (((hb2.mono hB).setCell hP2.low.1 _).setCell hP2.low.1 _) ?_ (rv' := rv) ?_
        · exact ((KQ.below hb2).trans (KQ.par hP2.par 9 _)).trans (KQ.par (hP2.par.set 9 _) 0 _)
        · have hx := PSt.parW (s' := { s with unit := true }) (K := K + (0 + 1 + 1)) hP2.par hP2.live hP2.fnt hP2.gmp hP2.glI hP2.cls (fun j hj => Nat.le_trans (hP2.few j hj) (by omega)) hP2.low 9 (.bool true) rfl
          exact PSt.parW (s' := { s with unit := true, f := { s.f with unit := nv } }) hx.par hx.live { hx.fnt with unit := HNV.out } hx.gmp hx.glI hx.cls hx.few hx.low 0 (.int .i64 nv) rfl
    · have HR : Hid (rUnit s [t1] = .error er) := by show _ = _; rw [hu.out, if_pos he]
      have e1 : (er == 0) = false := by simpa using he
      have e2 : (er != 0) = true := by simpa using he
      clear hu he
      go_enter Tryz.func73, Tryz.ntmps73
      go_wp2_with (first
        | (go_at_call 121; refine (read_ok w p).mono ?_; rintro e w1 ⟨rfl, hr1, hb1⟩; obtain ⟨hc1, hf1⟩ := bcell hb1)
        | (go_at_call 122; refine (hn1.out w1 _ hr1).mono ?_; rintro e w2 ⟨rfl, hr2, hg2⟩; have hb2 := below_rdr hb1 hg2 (Nat.le_refl _); have k1 := Bk.cell hr2 1; simp only [List.getElem?_toArray, List.getElem?_cons_succ, List.getElem?_cons_zero] at k1))
      go_ret
      exact StPost.bad HR.out (hb2.mono hB)
  · have HR := Lib.hid (rUnit_no s l h1)
    have e1 : ((n : Int) == 2) = false := by simp; omega
    have e2 : ((n : Int) != 2) = true := by simp; omega
    clear hP hL hT h1 hn
    go_enter Tryz.func73, Tryz.ntmps73
    go_wp2
    go_ret
    exact StPost.bad HR.out (Below.refl _ _)
end Go.Proofs.YtkijckccfookeaaGreatDoor
/- A slice's end, 'l[k:]': rows of words, of numbers. -/
namespace Go.Proofs.YtkijckccfookeaaGreatDoor
open Go.RowKit

/-- one element that has just been laid -/
theorem run_push0 {e t size : Nat} (E : ElT e t size) (ty : TypeId) (w1 : World) (base n c : Nat) (A : Option Addr) (xs : List Value) (news : Array Value) (hnl : news.size = size) (hown : w1.ownsRow base e size (.slice A n c) n xs) (h1 : ∀ u ∈ news.toList, u.oneCell' = true) (hn : n ≤ 10000000000) (hb : base ≤ w1.heap.size) :
    ∃ A' c' w', (Builtin.append_ #[t, t] ty #[.slice A n c, .slice (some ⟨w1.heap.size, 0, none⟩) 1 1]).run Tryz.prog (w1.alloc (.cells news e)) = .ok (.slice A' (n + 1) c') w' ∧ w'.ownsRow base e size (.slice A' (n + 1) c') (n + 1) (xs ++ news.toList) ∧ w1.grownBy w' (Value.slice A n c).ownBlock ∧ Loc w1 (.slice A n c) (.slice A' (n + 1) c') := by
  obtain ⟨A', c', w', hrun, h2, h3, h4⟩ := run_app E ty (w1.alloc (.cells news e)) base n c A xs (hown.alloc _) (w1.heap.size + 1) (some ⟨w1.heap.size, 0, none⟩) 1 1 news.toList (Rd.newAt _ _ rfl news e 1 size (by omega)) h1 (by omega) (by simp; omega)
  refine ⟨A', c', w', hrun, h2, ⟨h3.os, h3.tape, h3.output, Nat.le_trans (by simp) h3.size, fun i hi hne => ?_⟩, h4.imp id fun h5 g hg => by have := h5 g hg; simp at this; omega⟩
  exact (h3.block i (by simp; omega) hne).trans (Below.heap_alloc _ _ _ hi)
theorem sizeWord (w : World) : (sizeOf 124).run Tryz.prog w = .ok 3 w := by kernel_rfl
theorem sizeInt (w : World) : (sizeOf 3).run Tryz.prog w = .ok 1 w := by kernel_rfl
theorem run_sub {T E size : Nat} (hT : Tryz.prog.underlying T = some (.slice E)) (hs : ∀ w, (sizeOf E).run Tryz.prog w = .ok size w) (A : Option Addr) (n c k : Nat) (z : Int) (hz : z = (k : Int)) (hk : k ≤ n) (w : World) :
    (Instr.slice T (.slice A n c) (some (.int .i64 z)) none none).run Tryz.prog w = .ok (.slice (if c = k then A else A.map (·.add (k * size))) (n - k) (c - k)) w := by
  subst hz
  simp [Instr.slice, Instr.sliceBounds, Instr.sliceBound, asIntOf, run_underlying hT, hs, Result.andThen, hk]
theorem drop_flat {α : Type} (f : α → List Value) (size : Nat) (hf : ∀ x, (f x).length = size) (l : List α) (k : Nat) : (l.drop k).flatMap f = (l.flatMap f).drop (k * size) := by
  induction k generalizing l with
  | zero => simp
  | succ k ih =>
    cases l with
    | nil => simp
    | cons x r =>
      have hnil : (f x).drop ((k + 1) * size) = [] := List.drop_eq_nil_of_le (by rw [hf, Nat.add_mul]; omega)
      rw [List.drop_succ_cons, ih, List.flatMap_cons, List.drop_append, hnil, hf, Nat.add_mul, Nat.one_mul, Nat.add_sub_cancel]
      rfl
theorem c3s_drop (ws : List P3) (k : Nat) : c3s (ws.drop k) = (c3s ws).drop (k * 3) := drop_flat c3 3 (fun _ => rfl) ws k
/-- what the end of a row reads as -/
theorem RdT.sub {w : World} {t : TypeId} {A : Option Addr} {n c k size : Nat} {cs : List Value} (h : RdT w t A n size cs) (hk : k ≤ n) (hc : n ≤ c) : RdT w t (if c = k then A else A.map (·.add (k * size))) (n - k) size (cs.drop (k * size)) := by
  refine ⟨by rw [List.length_drop, h.1, Nat.sub_mul], fun h0 => ?_⟩
  obtain ⟨b, o, cur, e, hb, hr⟩ := h.2 (by omega)
  rw [if_neg (by omega), e]
  refine ⟨b, o + k * size, cur, ?_, hb, fun j u hu => ?_⟩
  · simp only [Option.map_some, Addr.add]
    by_cases hz : k * size = 0
    · rw [if_pos hz, hz]; rfl
    · rw [if_neg hz]
  · rw [List.getElem?_drop] at hu
    rw [Nat.add_assoc]
    exact hr _ u hu
/-- a line without its first words -/
theorem LnAt.sub {w : World} {A : Option Addr} {n c : Nat} {ws : List P3} (h : LnAt w A n ws) (hc : n ≤ c) (k : Nat) (z : Int) (hz : z = (k : Int)) (hk : k ≤ n) :
    ∃ A', (∀ w', (Instr.slice 119 (.slice A n c) (some (.int .i64 z)) none none).run Tryz.prog w' = .ok (.slice A' (n - k) (c - k)) w') ∧ RdT w 124 A' (n - k) 3 (c3s (ws.drop k)) ∧ (∀ x ∈ ws.drop k, x.2.2.length ≤ 1000000) :=
  ⟨_, fun w' => run_sub Tryz.underlying119 sizeWord A n c k z hz hk w', by rw [c3s_drop]; exact h.rd.sub hk hc, fun x hx => h.len x (List.mem_of_mem_drop hx)⟩
theorem txts_drop (ws : List P3) (k : Nat) : txts (ws.drop k) = (txts ws).drop k := by simp [txts, List.map_drop]
theorem txts_rest {ws : List P3} {t : B} {l : List B} (h : txts ws = t :: l) : txts (ws.drop 1) = l := by rw [txts_drop, h]; rfl
theorem txts_all {ws : List P3} (pr : B → Bool) : ws.all (fun x => pr x.2.2) = (txts ws).all pr := by simp [txts, List.all_map, Function.comp_def]
end Go.Proofs.YtkijckccfookeaaGreatDoor
