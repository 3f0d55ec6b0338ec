/- slices.Clone, outline.pieces and outline.Contours: turned from the outline seat's texts by gen_con.py. -/
import Derived.RangeFuncNested
import Derived.RangeFuncBound
import Derived.RangeFuncCalls
import Derived.RangeFuncLeaves
import Derived.RangeFuncBox
import Derived.Shelf.Abstract
import Derived.Shelf.RegionOpen
import Derived.OwnWalkIn
import Derived.TacticsInMore
import Derived.LoopNIn
import Derived.LoopIn
import Derived.Stop.RegionWithIn
import Derived.Test.YtkijckccfookeaaDoorUnG
namespace Go.Proofs.YtkijckccfookeaaDoor
open Go.RowKit Go.Shelf
attribute [local go_sem] Oper.semAt_some

theorem info40 : (Tryd.prog.info? 146).map (fun i => (i.zero, i.size, i.bytes)) = some (some (.agg #[.int .i64 0, .int .i64 0, .bool false]), 3, 24) := by kernel_rfl
theorem info3 : (Tryd.prog.info? 3).map (fun i => (i.zero, i.size, i.bytes)) = some (some (.int .i64 0), 1, 8) := by kernel_rfl

theorem eql22nil (w : World) (a : Option Addr) (n c : Nat) : (binOp .eql 49 (.slice a n c) (.slice none 0 0)).run Tryd.prog w = .ok (.bool a.isNone) w := Lib.run_eql_slice_nil w _ _ a n c 0 0 Tryd.underlying49
theorem eql23nil (w : World) (a : Option Addr) (n c : Nat) : (binOp .eql 22 (.slice a n c) (.slice none 0 0)).run Tryd.prog w = .ok (.bool a.isNone) w := Lib.run_eql_slice_nil w _ _ a n c 0 0 Tryd.underlying22

set_option maxHeartbeats 400000 in
theorem clone3 (w : World) (B : Nat) (A : Option Addr) (n c : Nat) (cs : List Value) (h1c : ∀ u ∈ cs, u.oneCell' = true) (hA : Rd w B A n 3 cs) (hB : B ≤ w.heap.size) (hn : n * 24 ≤ 140737488355328) :
    Calls Tryd.prog 67 #[.slice A n c] w fun e w' => ∃ v, e = .returned v ∧ w'.ownsRow w.heap.size 146 3 v n cs ∧ Below w.heap.size w w' := by
  obtain ⟨i0, hi0, hz0, hz1, hz2⟩ := info_parts info40
  have hnil := eql22nil
  rcases A with _ | ad
  · have h0 : n = 0 := by
      rcases Nat.eq_zero_or_pos n with h | h
      · exact h
      · obtain ⟨b, o, e, _⟩ := hA.2 h; cases e
    have hc : cs = [] := List.eq_nil_of_length_eq_zero (by rw [hA.1, h0])
    have H := Lib.hid h0
    have Hc := Lib.hid hc
    clear h0 hc
    go_enter Tryd.func67, Tryd.ntmps67
    go_wp2
    go_ret
    refine ⟨.slice none 0 0, rfl, ?_, Below.refl _ _⟩
    rw [H.out, Hc.out]
    exact World.ownsRow_nil _ _ _ _
  · go_enter Tryd.func67, Tryd.ntmps67
    go_wp2_with (at_builtin; refine wpList_append_any _ rfl (.tmp 5) (.tmp 6) 49 rfl w.heap.size 146 i0 _ 3 24 Tryd.underlying49 hi0 hz0 hz1 hz2 rfl (by decide) (.slice (some ⟨w.heap.size, 0, none⟩) 0 0) 0 [] rfl (World.ownsRow_made w #[] 0 (Nat.le_refl _) (by simp [maxLen]) rfl) B (some ad) n c cs rfl (hA.alloc hB _) (h1c) (by simp only [maxLen]; omega) (by omega) (by simp) ?_; intro v1 w1 hown1 hg1 hat1)
    go_ret
    refine ⟨v1, rfl, by simpa using hown1, ((Below.refl _ _).alloc (Nat.le_refl _) _).grown hg1 (by simp) (by simp [Value.ownBlock])⟩

set_option maxHeartbeats 400000 in
theorem cloneI (w : World) (B : Nat) (A : Option Addr) (n c : Nat) (ps : List Int) (hA : Rd w B A n 1 (cIs ps)) (hB : B ≤ w.heap.size) (hn : n * 8 ≤ 140737488355328) :
    Calls Tryd.prog 68 #[.slice A n c] w fun e w' => ∃ v, e = .returned v ∧ w'.ownsRow w.heap.size 3 1 v n (cIs ps) ∧ Below w.heap.size w w' := by
  obtain ⟨i0, hi0, hz0, hz1, hz2⟩ := info_parts info3
  have hnil := eql23nil
  rcases A with _ | ad
  · have h0 : n = 0 := by
      rcases Nat.eq_zero_or_pos n with h | h
      · exact h
      · obtain ⟨b, o, e, _⟩ := hA.2 h; cases e
    have hc : cIs ps = [] := List.eq_nil_of_length_eq_zero (by rw [hA.1, h0])
    have H := Lib.hid h0
    have Hc := Lib.hid hc
    clear h0 hc
    go_enter Tryd.func68, Tryd.ntmps68
    go_wp2
    go_ret
    refine ⟨.slice none 0 0, rfl, ?_, Below.refl _ _⟩
    rw [H.out, Hc.out]
    exact World.ownsRow_nil _ _ _ _
  · go_enter Tryd.func68, Tryd.ntmps68
    go_wp2_with (at_builtin; refine wpList_append_any _ rfl (.tmp 5) (.tmp 6) 22 rfl w.heap.size 3 i0 _ 1 8 Tryd.underlying22 hi0 hz0 hz1 hz2 rfl (by decide) (.slice (some ⟨w.heap.size, 0, none⟩) 0 0) 0 [] rfl (World.ownsRow_made w #[] 0 (Nat.le_refl _) (by simp [maxLen]) rfl) B (some ad) n c (cIs ps) rfl (hA.alloc hB _) (oneI ps) (by simp only [maxLen]; omega) (by omega) (by simp) ?_; intro v1 w1 hown1 hg1 hat1)
    go_ret
    refine ⟨v1, rfl, by simpa using hown1, ((Below.refl _ _).alloc (Nat.le_refl _) _).grown hg1 (by simp) (by simp [Value.ownBlock])⟩

/-- the pieces of a row of so many: number, first, last -/
def pcsF (len : Nat) : Nat → Nat → List Int → List (Nat × Nat × Nat)
  | _, _, [] => []
  | k, f, e :: es => if (f : Int) ≤ e ∧ e < (len : Int) then (k, f, e.toNat) :: pcsF len (k + 1) (e.toNat + 1) es else []
abbrev Pc (len : Nat) := { p : Nat × Nat × Nat // p.2.1 ≤ p.2.2 ∧ p.2.2 < len }

theorem pcsF_length (len : Nat) (es : List Int) : ∀ k f, (pcsF len k f es).length ≤ es.length := by
  induction es with
  | nil => intro k f; simp [pcsF]
  | cons e es ih =>
    intro k f
    rw [pcsF]
    split
    · simpa using ih _ _
    · simp

abbrev encs3 (b o len : Nat) (x : Pc len) : Array Value := #[.int .i64 (x.1.1 : Int), .slice (some ⟨b, o + x.1.2.1 * 3, none⟩) (x.1.2.2 + 1 - x.1.2.1) (x.1.2.2 + 1 - x.1.2.1)]

theorem pieces3_call (A E : Option Addr) (n c m d : Nat) (w : World) : Calls Tryd.prog 70 #[.slice A n c, .slice E m d] w fun x w' => x = .returned (.func (.func 92) #[] #[.pointer (some ⟨w.heap.size + 1, 0, none⟩), .pointer (some ⟨w.heap.size, 0, none⟩)]) ∧
    w' = (w.alloc (.cells #[.slice A n c] 49)).alloc (.cells #[.slice E m d] 22) := by
  go_enter Tryd.func70, Tryd.ntmps70
  go_wp2
  go_ret
  exact ⟨by simp, rfl⟩
theorem KeepT.rdE {T : Nat → Prop} {W W' : World} (h : KeepT T W W') {B : Nat} {A : Option Addr} {n size : Nat} {cs : List Value} (hT : ∀ b o, A = some ⟨b, o, none⟩ → T b) (hr : Rd W B A n size cs) : Rd W' B A n size cs :=
  ⟨hr.1, fun hn => by
    obtain ⟨b, o, e, hb, hc⟩ := hr.2 hn
    exact ⟨b, o, e, hb, fun j u hu => h.cell (p := ⟨b, o + j, none⟩) (hT b o e) (hc j u hu)⟩⟩

set_option maxRecDepth 100000 in
set_option maxHeartbeats 2000000 in
theorem pieces3_inT (n : Nat) (hn : 1 ≤ n) (l be br b o len cap m d B : Nat) (A E : Option Addr) (es : List Int) (T : Nat → Prop) (hT : ∀ b o, E = some ⟨b, o, none⟩ → T b) (hTe : T be) (hTr : T br) (hAb : 0 < len → A = some ⟨b, o, none⟩) (hcap : len ≤ cap) (hlen : cap ≤ 9223372036854775807) (hm : m ≤ 9223372036854775807)
    (J Jx : List (Pc len) → World → Prop)
    (hY : ∀ pre x W, J pre W → pre.length < m → YieldAt Fence.wide (n - 1) Tryd.prog l #[.int .i64 (x.1.1 : Int), .slice (some ⟨b, o + x.1.2.1 * 3, none⟩) (x.1.2.2 + 1 - x.1.2.1) (x.1.2.2 + 1 - x.1.2.1)] W fun e W' =>
      (e = .returned (.bool true) ∧ J (pre ++ [x]) W' ∧ KeepT T W W') ∨ (e = .returned (.bool false) ∧ Jx (pre ++ [x]) W'))
    (W : World) (hE : Rd W B E m 1 (cIs es)) (hbe : W.cell? ⟨be, 0, none⟩ = some (.slice E m d)) (hbr : W.cell? ⟨br, 0, none⟩ = some (.slice A len cap)) (h0 : J [] W) :
    CallsIn Fence.wide n Tryd.prog 92 #[.func (.yield l) #[] #[], .pointer (some ⟨be, 0, none⟩), .pointer (some ⟨br, 0, none⟩)] W fun e W' => (∃ v, e = .returned v) ∧
      ((∃ ys, ys.map (·.1) = pcsF len 0 0 es ∧ J ys W') ∨ (∃ pre, pre.map (·.1) <+: pcsF len 0 0 es ∧ Jx pre W')) := by
  refine callsIn_of_wp Tryd.func92 rfl trivial ?_ rfl
  simp only [Tryd.ntmps92, List.size_toArray, List.length_cons, List.length_nil, Nat.reduceAdd, Nat.reduceSub, Array.replicate_succ, Array.replicate_zero, List.push_toArray, List.append_toArray, List.nil_append, List.cons_append]
  gi_wp2
  gi_loopw [4, 9] (fun f i wr => ∃ (k q : Nat) (pre : List (Pc len)), k ≤ m ∧ q ≤ len ∧ i = .int .i64 k ∧ f = .int .i64 q ∧ J pre wr ∧ KeepT T W wr ∧ Hid (pre.map (·.1) ++ pcsF len k q (es.drop k) = pcsF len 0 0 es))
    (fun _ i _ => m - (intOf i).toNat)
  case atStart => exact ⟨0, 0, [], by omega, by omega, rfl, rfl, h0, KeepT.refl _ _, rfl⟩
  case round =>
    obtain ⟨k, q, pre, hk, hq, rfl, rfl, hJs, hnx, hpre⟩ := hrel
    have hbe2 := hnx.cell hTe hbe
    have hbr2 := hnx.cell hTr hbr
    by_cases hlt : k < m
    · obtain ⟨be0, bo, e, rfl, -, he, hce⟩ := (hnx.rdE hT hE).atI hlt
      have hdrop : Hid (es.drop k = e :: es.drop (k + 1)) := by
        obtain ⟨h1, h2⟩ := List.getElem?_eq_some_iff.1 he.out
        have := List.drop_eq_getElem_cons h1
        rw [h2] at this
        exact this
      by_cases hlow : e < (q : Int)
      · have hd : decide (e < (q : Int)) = true := by simp [hlow]
        gi_wp2
        refine bodyPost_ret (results_none rfl _ _ _) rfl ?_
        refine ⟨⟨_, rfl⟩, .inl ⟨pre, ?_, hJs⟩⟩
        have := hpre.out
        rw [hdrop.out, pcsF, if_neg (by omega)] at this
        simpa using this
      · have hd : decide (e < (q : Int)) = false := by simp; omega
        by_cases hhi : (len : Int) ≤ e
        · gi_wp2
          refine bodyPost_ret (results_none rfl _ _ _) rfl ?_
          refine ⟨⟨_, rfl⟩, .inl ⟨pre, ?_, hJs⟩⟩
          have := hpre.out
          rw [hdrop.out, pcsF, if_neg (by omega)] at this
          simpa using this
        · obtain ⟨en, rfl⟩ : ∃ en : Nat, e = en := ⟨e.toNat, by omega⟩
          have hqe : q ≤ en := by omega
          have hel : en < len := by omega
          obtain rfl := hAb (by omega)
          have hnext : Hid ((pre ++ [(⟨(k, q, en), hqe, hel⟩ : Pc len)]).map (·.1) ++ pcsF len (k + 1) (en + 1) (es.drop (k + 1)) = pcsF len 0 0 es) := by
            have := hpre.out
            rw [hdrop.out, pcsF, if_pos (by omega)] at this
            show _ = _
            simpa using this
          obtain ⟨fn, tmps, assign, body, hy, hR⟩ := hY pre ⟨(k, q, en), hqe, hel⟩ wr hJs (by
            have h1 := congrArg List.length hnext.out
            have h2 := pcsF_length len es 0 0
            have h3 := hE.lenI
            simp only [List.length_append, List.length_map, List.length_cons, List.length_nil] at h1
            omega)
          dsimp only at hy
          clear hlow hhi
          gi_wp2
          refine hR.mono ?_
          rintro e W3 (⟨rfl, hJ3, hk3⟩ | ⟨rfl, hJx3⟩)
          · have hcell3 := hk3.cell hTe hbe2
            gi_wp2
            go_roundw
            case rel => exact ⟨k + 1, en + 1, _, by omega, by omega, by go_num, by go_num, hJ3, hnx.trans hk3, hnext⟩
            case measure => simp [intOf]; omega
          · gi_wp2
            refine bodyPost_ret (results_none rfl _ _ _) rfl ?_
            exact ⟨⟨_, rfl⟩, .inr ⟨_, ⟨_, hnext.out⟩, hJx3⟩⟩
    · gi_wp2
      go_end0
      refine ⟨⟨_, rfl⟩, .inl ⟨pre, ?_, hJs⟩⟩
      have := hpre.out
      rw [List.drop_eq_nil_of_le (by have := hE.lenI; omega)] at this
      simpa [pcsF] using this

theorem pieces3_stopsT (n : Nat) (hn : 1 ≤ n) (be br b o len cap m d B : Nat) (A E : Option Addr) (es : List Int) (T : Nat → Prop) (hT : ∀ b o, E = some ⟨b, o, none⟩ → T b) (hTe : T be) (hTr : T br) (hAb : 0 < len → A = some ⟨b, o, none⟩) (hcap : len ≤ cap) (hlen : cap ≤ 9223372036854775807) (hm : m ≤ 9223372036854775807)
    (w : World) (hB : B ≤ w.heap.size) (hE : Rd w B E m 1 (cIs es)) (hbe : w.cell? ⟨be, 0, none⟩ = some (.slice E m d)) (hbr : w.cell? ⟨br, 0, none⟩ = some (.slice A len cap)) :
    SeqStopsK Fence.wide n Tryd.prog 92 #[.pointer (some ⟨be, 0, none⟩), .pointer (some ⟨br, 0, none⟩)] (encs3 b o len) (KeepT T) (fun xs => xs.map (·.1) = pcsF len 0 0 es) (fun pre => pre.map (·.1) <+: pcsF len 0 0 es) m w := fun l J Jx W hW _ _ hY h0 => by
  have h1 := World.block_lt_of_cell? w _ hbe
  have h2 := World.block_lt_of_cell? w _ hbr
  exact pieces3_inT n hn l be br b o len cap m d B A E es T hT hTe hTr hAb hcap hlen hm J Jx hY W (hE.below hW hB) ((hW.cell (p := ⟨be, 0, none⟩) h1).trans hbe) ((hW.cell (p := ⟨br, 0, none⟩) h2).trans hbr) h0

theorem frzB {w w' : World} (hb : Below w.heap.size w w') {p : Addr} {v : Value} (h : w.cell? p = some v) (hf : w.frozen? p = false) : w'.frozen? p = false := (hb.frozen (World.block_lt_of_cell? w p h)).trans hf
theorem frzA {w : World} (o : Obj) {p : Addr} {v : Value} (h : w.cell? p = some v) (hf : w.frozen? p = false) : (w.alloc o).frozen? p = false :=
  frzB ((Below.refl _ _).alloc (Nat.le_refl _) o) h hf
theorem cellA {w : World} (o : Obj) {p : Addr} {v : Value} (h : w.cell? p = some v) : (w.alloc o).cell? p = some v := cellB ((Below.refl _ _).alloc (Nat.le_refl _) o) h
theorem nc1 (w : World) (v : Value) (t : TypeId) : (w.alloc (.cells #[v] t)).cell? ⟨w.heap.size, 0, none⟩ = some v := by simp [go_sem]
theorem nf1 (w : World) (v : Value) (t : TypeId) : (w.alloc (.cells #[v] t)).frozen? ⟨w.heap.size, 0, none⟩ = false := by simp [go_sem]
theorem nc2 (w : World) (o : Obj) (v : Value) (t : TypeId) : ((w.alloc o).alloc (.cells #[v] t)).cell? ⟨w.heap.size + 1, 0, none⟩ = some v := by simp [go_sem]
theorem nf2 (w : World) (o : Obj) (v : Value) (t : TypeId) : ((w.alloc o).alloc (.cells #[v] t)).frozen? ⟨w.heap.size + 1, 0, none⟩ = false := by simp [go_sem]
theorem bk1 (w : World) (v : Value) (t : TypeId) : Bk (w.alloc (.cells #[v] t)) w.heap.size t #[v] := heap_alloc_new w _
theorem bk2 (w : World) (o : Obj) (v : Value) (t : TypeId) : Bk ((w.alloc o).alloc (.cells #[v] t)) (w.heap.size + 1) t #[v] := by
  have h := bk1 (w.alloc o) v t
  rwa [World.size_alloc] at h
theorem Bk.below {w w' : World} {g : Nat} {t : TypeId} {cs : Array Value} (h : Bk w g t cs) (hb : Below w.heap.size w w') : Bk w' g t cs := (hb.block g h.lt).trans h

/-- what Contours gives: a function over copies of the points and of the ends -/
def ConP (w : World) (n m : Nat) (cs : List Value) (es : List Int) (e : Ending) (w' : World) : Prop :=
  ∃ v u pb eb, e = .returned (.func (.func 69) #[] #[.pointer (some ⟨pb, 0, none⟩), .pointer (some ⟨eb, 0, none⟩)]) ∧ w'.ownsRow w.heap.size 146 3 v n cs ∧ w'.ownsRow w.heap.size 3 1 u m (cIs es) ∧ Bk w' pb 49 #[v] ∧ Bk w' eb 22 #[u] ∧ w.heap.size ≤ pb ∧ w.heap.size ≤ eb ∧ Below w.heap.size w w'
theorem ownsRow_setBox {w : World} {base : Nat} {e t : TypeId} {s : Nat} {v : Value} {n : Nat} {xs : List Value} (h : w.ownsRow base e s v n xs) {g : Nat} {cs : Array Value} (hb : Bk w g t cs) (hne : e ≠ t) (i : Nat) (u : Value) : (w.setCell ⟨g, i, none⟩ u).ownsRow base e s v n xs := by
  refine h.kept (row := some g) (only_setCell (p := ⟨g, i, none⟩) (World.grownBy.refl _ _) (.inl rfl) _) (.inr (fun e' => ?_))
  obtain ⟨cur, hk⟩ := own_bk h g e'
  have h1 : w.heap[g]? = _ := hb
  have h2 : w.heap[g]? = _ := hk
  rw [h1] at h2
  injection h2 with h3
  injection h3 with _ h4
  exact hne h4.symm
section
variable {w w2 : World} {n m b1 b2 : Nat} {cs : List Value} {es : List Int} {v u : Value} (hb : Below w.heap.size w w2) (h1 : w2.ownsRow b1 146 3 v n cs) (h2 : w2.ownsRow b2 3 1 u m (cIs es)) (hb1 : w.heap.size ≤ b1) (hb2 : w.heap.size ≤ b2)
include hb h1 h2 hb1 hb2
theorem con_a1 : ConP w n m cs es (.returned (.func (.func 69) #[] #[.pointer (some ⟨w2.heap.size, 0, none⟩), .pointer (some ⟨w2.heap.size + 1, 0, none⟩)])) ((w2.alloc (.cells #[v] 49)).alloc (.cells #[u] 22)) :=
  ⟨v, u, _, _, rfl, ownsRow_base ((h1.alloc _).alloc _) hb1, ownsRow_base ((h2.alloc _).alloc _) hb2, (bk1 _ _ _).alloc _, bk2 _ _ _ _, hb.size, Nat.le_succ_of_le hb.size, (hb.alloc hb.size _).alloc (by have := hb.size; simp; omega) _⟩
theorem con_a2 : ConP w n m cs es (.returned (.func (.func 69) #[] #[.pointer (some ⟨w2.heap.size + 1, 0, none⟩), .pointer (some ⟨w2.heap.size, 0, none⟩)])) ((w2.alloc (.cells #[u] 22)).alloc (.cells #[v] 49)) :=
  ⟨v, u, _, _, rfl, ownsRow_base ((h1.alloc _).alloc _) hb1, ownsRow_base ((h2.alloc _).alloc _) hb2, bk2 _ _ _ _, (bk1 _ _ _).alloc _, Nat.le_succ_of_le hb.size, hb.size, (hb.alloc hb.size _).alloc (by have := hb.size; simp; omega) _⟩
theorem con_b1 {g : Nat} {z : Value} (hg : Bk w2 g 49 #[z]) (hgw : w.heap.size ≤ g) : ConP w n m cs es (.returned (.func (.func 69) #[] #[.pointer (some ⟨g, 0, none⟩), .pointer (some ⟨w2.heap.size, 0, none⟩)])) ((w2.setCell ⟨g, 0, none⟩ v).alloc (.cells #[u] 22)) := by
  have hs : (w2.setCell ⟨g, 0, none⟩ v).heap.size = w2.heap.size := by simp
  have hk := bk1 (w2.setCell ⟨g, 0, none⟩ v) u 22
  rw [hs] at hk
  exact ⟨v, u, _, _, rfl, ownsRow_base ((ownsRow_setBox h1 hg (by decide) 0 v).alloc _) hb1, ownsRow_base ((ownsRow_setBox h2 hg (by decide) 0 v).alloc _) hb2, (hg.set 0 v).alloc _, hk, hgw, hb.size, (hb.setCell hgw _).alloc (by rw [hs]; exact hb.size) _⟩
theorem con_b2 {g : Nat} {z : Value} (hg : Bk w2 g 22 #[z]) (hgw : w.heap.size ≤ g) : ConP w n m cs es (.returned (.func (.func 69) #[] #[.pointer (some ⟨w2.heap.size, 0, none⟩), .pointer (some ⟨g, 0, none⟩)])) ((w2.setCell ⟨g, 0, none⟩ u).alloc (.cells #[v] 49)) := by
  have hs : (w2.setCell ⟨g, 0, none⟩ u).heap.size = w2.heap.size := by simp
  have hk := bk1 (w2.setCell ⟨g, 0, none⟩ u) v 49
  rw [hs] at hk
  exact ⟨v, u, _, _, rfl, ownsRow_base ((ownsRow_setBox h1 hg (by decide) 0 u).alloc _) hb1, ownsRow_base ((ownsRow_setBox h2 hg (by decide) 0 u).alloc _) hb2, hk, (hg.set 0 u).alloc _, hb.size, hgw, (hb.setCell hgw _).alloc (by rw [hs]; exact hb.size) _⟩
theorem con_c {g h : Nat} {z z' : Value} (hg : Bk w2 g 49 #[z]) (hh : Bk w2 h 22 #[z']) (hgw : w.heap.size ≤ g) (hhw : w.heap.size ≤ h) : ConP w n m cs es (.returned (.func (.func 69) #[] #[.pointer (some ⟨g, 0, none⟩), .pointer (some ⟨h, 0, none⟩)])) ((w2.setCell ⟨g, 0, none⟩ v).setCell ⟨h, 0, none⟩ u) := by
  have hne : g ≠ h := by
    rintro rfl
    have a1 : w2.heap[g]? = _ := hg
    have a2 : w2.heap[g]? = _ := hh
    rw [a1] at a2
    injection a2 with a3
    injection a3 with _ a4
    exact absurd a4 (by decide)
  have hh2 := hh.far (p := ⟨g, 0, none⟩) hne.symm v
  exact ⟨v, u, _, _, rfl, ownsRow_base (ownsRow_setBox (ownsRow_setBox h1 hg (by decide) 0 v) hh2 (by decide) 0 u) hb1, ownsRow_base (ownsRow_setBox (ownsRow_setBox h2 hg (by decide) 0 v) hh2 (by decide) 0 u) hb2, (hg.set 0 v).far (p := ⟨h, 0, none⟩) hne u, hh2.set 0 u, hgw, hhw, (hb.setCell hgw _).setCell hhw _⟩
end

set_option maxRecDepth 100000 in
set_option maxHeartbeats 4000000 in
theorem contours_call (w : World) (B : Nat) (A E : Option Addr) (n c m d : Nat) (cs : List Value) (h1c : ∀ u ∈ cs, u.oneCell' = true) (es : List Int) (hA : Rd w B A n 3 cs) (hE : Rd w B E m 1 (cIs es)) (hB : B ≤ w.heap.size) (hn : n * 24 ≤ 140737488355328) (hm : m * 8 ≤ 140737488355328) :
    Calls Tryd.prog 45 #[.agg #[.slice A n c, .slice E m d]] w (ConP w n m cs es) := by
  go_enter Tryd.func45, Tryd.ntmps45
  go_wp2_with fail
  obtain ⟨W, hW⟩ : ∃ W, w.alloc (.cells #[.slice A n c, .slice E m d] 51) = W := ⟨_, rfl⟩
  have k0 : W.cell? ⟨w.heap.size, 0, none⟩ = some (.slice A n c) := by rw [← hW]; simp [go_sem]
  have k1 : W.cell? ⟨w.heap.size, 1, none⟩ = some (.slice E m d) := by rw [← hW]; simp [go_sem]
  have bw : Below w.heap.size w W := by rw [← hW]; exact (Below.refl _ _).alloc (Nat.le_refl _) _
  have hs : w.heap.size < W.heap.size := by rw [← hW]; simp
  rw [hW]
  clear hW
  have hA1 := hA.below bw hB
  have hE1 := hE.below bw hB
  have hBW : B ≤ W.heap.size := by omega
  have hnW : ¬ (W.heap.size = w.heap.size) := by omega
  have hnW1 : ¬ (W.heap.size + 1 = w.heap.size) := by omega
  have hnW2 : ¬ (w.heap.size = W.heap.size) := by omega
  have hnW3 : ¬ (w.heap.size = W.heap.size + 1) := by omega
  go_region_held3 (fun w' => w'.cell? ⟨w.heap.size, 0, none⟩ = some (.slice A n c) ∧ w'.cell? ⟨w.heap.size, 1, none⟩ = some (.slice E m d))
    (first | go_keep)
    (first
      | (go_at_call 67; refine (clone3 _ B A n c cs h1c (by first | exact hA1.drew | exact (hA1.alloc (by omega) _).drew | exact ((hA1.alloc (by omega) _).alloc (by simp; omega) _).drew) (by first | omega | (simp; omega)) hn).mono ?_; rintro e w1 ⟨v, rfl, hown, hb1d⟩; have hb1 := unDrew hb1d; (have hs1 : W.heap.size ≤ w1.heap.size := Nat.le_trans (by first | exact Nat.le_refl _ | (simp; omega) | simp) hb1.size); (have bw1 : Below w.heap.size w w1 := by first | exact bw.trans (hb1.mono (by omega)) | exact (bw.alloc (by omega) _).trans (hb1.mono (by simp; omega)) | exact ((bw.alloc (by omega) _).alloc (by simp; omega) _).trans (hb1.mono (by simp; omega))); (have hs1' : w.heap.size < w1.heap.size := Nat.lt_of_lt_of_le hs hs1); (have hn1 : ¬ (w1.heap.size = w.heap.size) := (by omega)); (have hn2 : ¬ (w1.heap.size + 1 = w.heap.size) := (by omega)); (have hn3 : ¬ (w.heap.size = w1.heap.size) := (by omega)); (have hn4 : ¬ (w.heap.size = w1.heap.size + 1) := (by omega)); (first | (have y0 := ((bk1 W (.slice none 0 0) _).alloc _).below hb1; have y1 := (bk2 W _ (.slice none 0 0) _).below hb1; have q0 := cellB hb1 (cellA _ (cellA _ k0)); have q1 := cellB hb1 (cellA _ (cellA _ k1)); have hE2 := ((hE1.alloc hBW _).alloc (by simp; omega) _).below hb1 (by simp; omega); have y0l := y0.lt; have y0c : w1.cell? ⟨W.heap.size, 0, none⟩ = some (.slice none 0 0) := y0.cell 0; have y0f : w1.frozen? ⟨W.heap.size, 0, none⟩ = false := y0.frozen 0; have y1l := y1.lt; have y1c : w1.cell? ⟨W.heap.size + 1, 0, none⟩ = some (.slice none 0 0) := y1.cell 0; have y1f : w1.frozen? ⟨W.heap.size + 1, 0, none⟩ = false := y1.frozen 0) | (have y0 := (bk1 W (.slice none 0 0) _).below hb1; have q0 := cellB hb1 (cellA _ k0); have q1 := cellB hb1 (cellA _ k1); have hE2 := (hE1.alloc hBW _).below hb1 (by simp; omega); have y0l := y0.lt; have y0c : w1.cell? ⟨W.heap.size, 0, none⟩ = some (.slice none 0 0) := y0.cell 0; have y0f : w1.frozen? ⟨W.heap.size, 0, none⟩ = false := y0.frozen 0) | (have q0 := cellB hb1 k0; have q1 := cellB hb1 k1; have hE2 := hE1.below hb1 hBW)); obtain ⟨A1, c1, rfl, -⟩ := Rd.of_own hown)
      | (go_at_call 68; refine (cloneI _ B E m d es (by first | exact hE2 | exact hE2.alloc (by omega) _ | exact (hE2.alloc (by omega) _).alloc (by simp; omega) _) (by first | omega | (simp; omega)) hm).mono ?_; rintro e w2 ⟨u, rfl, hownE, hb2⟩; (have hs2 : w1.heap.size ≤ w2.heap.size := Nat.le_trans (by first | exact Nat.le_refl _ | (simp; omega) | simp) hb2.size); (have bw2 : Below w.heap.size w w2 := by first | exact bw1.trans (hb2.mono (by omega)) | exact (bw1.alloc (by omega) _).trans (hb2.mono (by simp; omega)) | exact ((bw1.alloc (by omega) _).alloc (by simp; omega) _).trans (hb2.mono (by simp; omega))); (have hs2' : w.heap.size < w2.heap.size := Nat.lt_of_lt_of_le hs1' hs2); (have hm1 : ¬ (w2.heap.size = w.heap.size) := (by omega)); (have hm2 : ¬ (w2.heap.size + 1 = w.heap.size) := (by omega)); (have hm3 : ¬ (w.heap.size = w2.heap.size) := (by omega)); (have hm4 : ¬ (w.heap.size = w2.heap.size + 1) := (by omega)); (first | (have x0 := ((bk1 w1 (.slice none 0 0) _).alloc _).below hb2; have x1 := (bk2 w1 _ (.slice none 0 0) _).below hb2; have hown2 := own_below ((hown.alloc _).alloc _) hb2; have r0 := cellB hb2 (cellA _ (cellA _ q0)); have r1 := cellB hb2 (cellA _ (cellA _ q1)); have x0l := x0.lt; have x0c : w2.cell? ⟨w1.heap.size, 0, none⟩ = some (.slice none 0 0) := x0.cell 0; have x0f : w2.frozen? ⟨w1.heap.size, 0, none⟩ = false := x0.frozen 0; have x1l := x1.lt; have x1c : w2.cell? ⟨w1.heap.size + 1, 0, none⟩ = some (.slice none 0 0) := x1.cell 0; have x1f : w2.frozen? ⟨w1.heap.size + 1, 0, none⟩ = false := x1.frozen 0) | (have x0 := (bk1 w1 (.slice none 0 0) _).below hb2; have hown2 := own_below (hown.alloc _) hb2; have r0 := cellB hb2 (cellA _ q0); have r1 := cellB hb2 (cellA _ q1); have x2 := (y0.alloc _).below hb2; have x0l := x0.lt; have x0c : w2.cell? ⟨w1.heap.size, 0, none⟩ = some (.slice none 0 0) := x0.cell 0; have x0f : w2.frozen? ⟨w1.heap.size, 0, none⟩ = false := x0.frozen 0; have x2l := x2.lt; have x2c : w2.cell? ⟨W.heap.size, 0, none⟩ = some (.slice none 0 0) := x2.cell 0; have x2f : w2.frozen? ⟨W.heap.size, 0, none⟩ = false := x2.frozen 0) | (have x0 := (bk1 w1 (.slice none 0 0) _).below hb2; have hown2 := own_below (hown.alloc _) hb2; have r0 := cellB hb2 (cellA _ q0); have r1 := cellB hb2 (cellA _ q1); have x0l := x0.lt; have x0c : w2.cell? ⟨w1.heap.size, 0, none⟩ = some (.slice none 0 0) := x0.cell 0; have x0f : w2.frozen? ⟨w1.heap.size, 0, none⟩ = false := x0.frozen 0) | (have hown2 := own_below hown hb2; have r0 := cellB hb2 q0; have r1 := cellB hb2 q1; have x2 := y0.below hb2; have x3 := y1.below hb2; have x2l := x2.lt; have x2c : w2.cell? ⟨W.heap.size, 0, none⟩ = some (.slice none 0 0) := x2.cell 0; have x2f : w2.frozen? ⟨W.heap.size, 0, none⟩ = false := x2.frozen 0; have x3l := x3.lt; have x3c : w2.cell? ⟨W.heap.size + 1, 0, none⟩ = some (.slice none 0 0) := x3.cell 0; have x3f : w2.frozen? ⟨W.heap.size + 1, 0, none⟩ = false := x3.frozen 0) | (have hown2 := own_below hown hb2; have r0 := cellB hb2 q0; have r1 := cellB hb2 q1; have x2 := y0.below hb2; have x2l := x2.lt; have x2c : w2.cell? ⟨W.heap.size, 0, none⟩ = some (.slice none 0 0) := x2.cell 0; have x2f : w2.frozen? ⟨W.heap.size, 0, none⟩ = false := x2.frozen 0) | (have hown2 := own_below hown hb2; have r0 := cellB hb2 q0; have r1 := cellB hb2 q1)); obtain ⟨E1, d1, rfl, -⟩ := Rd.of_own hownE))
  all_goals
    go_wp2_with fail
    go_ret
    first
      | exact con_a1 bw2 hown2 hownE (by first | omega | (simp; omega)) (by first | omega | (simp; omega))
      | exact con_a2 bw2 hown2 hownE (by first | omega | (simp; omega)) (by first | omega | (simp; omega))
      | exact con_b1 bw2 hown2 hownE (by first | omega | (simp; omega)) (by first | omega | (simp; omega)) x0 (by omega)
      | exact con_b1 bw2 hown2 hownE (by first | omega | (simp; omega)) (by first | omega | (simp; omega)) x2 (by omega)
      | exact con_b2 bw2 hown2 hownE (by first | omega | (simp; omega)) (by first | omega | (simp; omega)) x0 (by omega)
      | exact con_b2 bw2 hown2 hownE (by first | omega | (simp; omega)) (by first | omega | (simp; omega)) x2 (by omega)
      | exact con_c bw2 hown2 hownE (by first | omega | (simp; omega)) (by first | omega | (simp; omega)) x0 x1 (by omega) (by omega)
      | exact con_c bw2 hown2 hownE (by first | omega | (simp; omega)) (by first | omega | (simp; omega)) x1 x0 (by omega) (by omega)
      | exact con_c bw2 hown2 hownE (by first | omega | (simp; omega)) (by first | omega | (simp; omega)) x0 x2 (by omega) (by omega)
      | exact con_c bw2 hown2 hownE (by first | omega | (simp; omega)) (by first | omega | (simp; omega)) x2 x0 (by omega) (by omega)
      | exact con_c bw2 hown2 hownE (by first | omega | (simp; omega)) (by first | omega | (simp; omega)) x2 x3 (by omega) (by omega)
      | exact con_c bw2 hown2 hownE (by first | omega | (simp; omega)) (by first | omega | (simp; omega)) x3 x2 (by omega) (by omega)
end Go.Proofs.YtkijckccfookeaaDoor
