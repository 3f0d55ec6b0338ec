/- strings.SplitSeq at the separator of one byte 10: what it hands on, one by one. -/
import Derived.Test.YtkijckccfookeaaGreatDoorM33
import Derived.Test.YtkijckccfookeaaGreatDoorM05
import Derived.Test.YtkijckccfookeaaGreatDoorM04
import Derived.RangeFuncNested
import Derived.RangeFuncBound
import Derived.RangeFuncCalls
import Derived.RangeFuncLeaves
import Derived.RangeFuncBox
import Derived.Shelf.Abstract
import Derived.Shelf.RegionOpen
import Derived.OwnWalkIn
import Derived.TacticsInMore
import Derived.LoopNIn
import Derived.LoopIn
import Derived.Deep.RegionHeld3
import Derived.Deep.RegionLaw
import Derived.Lib.OthersKept
import Derived.Outline
import Derived.BigRegion
namespace Go.Proofs.YtkijckccfookeaaGreatDoor
open Go.RowKit Go.Shelf
attribute [local go_sem] Oper.semAt_some

theorem wIndex_no (w : World) (s : B) (h : ∀ c ∈ s, c ≠ 10) : Calls Tryz.prog 162 #[.string ⟨s.toArray⟩, .string ⟨#[10]⟩] w fun e w' => e = .returned (.int .i64 (-1)) ∧ w = w' := by
  refine (wIndex_ok w s).mono ?_
  rintro e w' ⟨rfl, rfl⟩
  refine ⟨?_, rfl⟩
  have : Lib.indexByte s 10 = -1 := by
    by_cases h1 : Lib.indexByte s 10 = -1
    · exact h1
    · have hge := Lib.indexByte_ge s 10
      obtain ⟨h2, -⟩ := Lib.indexByte_some (l := s) (c := 10) (o := (Lib.indexByte s 10).toNat) (by omega)
      exact absurd rfl (h 10 (List.mem_of_getElem? h2))
  rw [this]
theorem wIndex_at (w : World) (s : B) (o : Nat) (h : s[o]? = some 10) (hn : ∀ c ∈ s.take o, c ≠ 10) : Calls Tryz.prog 162 #[.string ⟨s.toArray⟩, .string ⟨#[10]⟩] w fun e w' => e = .returned (.int .i64 o) ∧ w = w' := by
  refine (wIndex_ok w s).mono ?_
  rintro e w' ⟨rfl, rfl⟩
  refine ⟨?_, rfl⟩
  have : Lib.indexByte s 10 = o := by
    by_cases h1 : Lib.indexByte s 10 = -1
    · exact absurd h (Lib.indexByte_none h1 o)
    · have hge := Lib.indexByte_ge s 10
      obtain ⟨h2, h3⟩ := Lib.indexByte_some (l := s) (c := 10) (o := (Lib.indexByte s 10).toNat) (by omega)
      have a1 : ¬ (Lib.indexByte s 10).toNat < o := fun hlt => hn 10 (by
        rw [List.mem_iff_getElem?]
        exact ⟨_, by rw [List.getElem?_take, if_pos hlt]; exact h2⟩) rfl
      have a2 : ¬ o < (Lib.indexByte s 10).toNat := fun hlt => h3 o hlt h
      omega
  rw [this]
theorem first10 (s : B) : (∀ c ∈ s, c ≠ 10) ∨ ∃ o, s[o]? = some 10 ∧ ∀ c ∈ s.take o, c ≠ 10 := by
  induction s with
  | nil => left; simp
  | cons c r ih =>
    by_cases hc : c = 10
    · right; exact ⟨0, by simp [hc], by simp⟩
    · rcases ih with h | ⟨o, h1, h2⟩
      · left
        intro d hd
        rcases List.mem_cons.1 hd with rfl | hd
        · exact hc
        · exact h d hd
      · right
        refine ⟨o + 1, by simpa using h1, fun d hd => ?_⟩
        rw [List.take_succ_cons] at hd
        rcases List.mem_cons.1 hd with rfl | hd
        · exact hc
        · exact h2 d hd
theorem pcs_at (s : B) (o : Nat) (h : s[o]? = some 10) (hn : ∀ c ∈ s.take o, c ≠ 10) : pcs s = s.take o :: pcs (s.drop (o + 1)) := by
  have := pcs_cut s 0 o h (by omega) (by simpa using hn)
  simpa using this
theorem pcs_length (s : B) : (pcs s).length ≤ s.length + 1 := by
  induction s with
  | nil => simp [pcs]
  | cons c r ih =>
    rw [pcs]
    split
    · simp; omega
    · split <;> rename_i h <;> rw [h] at ih <;> simp at ih ⊢
      omega
theorem RoundIn.deep {P : Program} {l m k : Nat} {f : FuncId} {tmps : Array Value} {assign body : Code} {w : World} {R : Ending → World → Prop} (h : RoundIn Fence.wide m P l f tmps assign body w R) : RoundIn Fence.wide k P l f tmps assign body w R :=
  ⟨h.1, fun c cs _ => h.2 c cs (fun _ hd => by cases hd)⟩
def strLen (W : World) (b : Nat) : Nat := match W.cell? ⟨b, 0, none⟩ with | some (.string s) => s.size | _ => 0
theorem strLen_of {W : World} {b : Nat} {s : B} (h : Bk W b 9 #[.string ⟨s.toArray⟩]) : strLen W b = s.length := by
  have : W.cell? ⟨b, 0, none⟩ = some (.string ⟨s.toArray⟩) := h.cell 0
  simp [strLen, this]
  rfl
abbrev Ln := { x : B // x.length ≤ 1000000 }
def encsL (x : Ln) : Array Value := #[.string ⟨x.1.toArray⟩]
def SeqT (h : Nat) (b : Nat) : Prop := b = h ∨ b = h + 1 ∨ b = h + 1 + 1
theorem keepT_bk {T : Nat → Prop} {W W' : World} (h : KeepT T W W') {b : Nat} (hb : T b) {t : TypeId} {cs : Array Value} (hk : Bk W b t cs) : Bk W' b t cs := h b hb _ hk rfl
set_option maxRecDepth 100000 in
set_option maxHeartbeats 4000000 in
theorem seq_gives (w : World) (h : Nat) (s : B) (hs : s.length ≤ 1000000) (h1 : Bk w h 9 #[.string ⟨s.toArray⟩]) (h2 : Bk w (h + 1) 9 #[.string ⟨#[10]⟩]) (h3 : Bk w (h + 1 + 1) 3 #[.int .i64 0]) :
    GivesW Tryz.prog h 160 #[.pointer (some ⟨h + 1, 0, none⟩), .pointer (some ⟨h, 0, none⟩), .pointer (some ⟨h + 1 + 1, 0, none⟩)] encsL (KeepT (SeqT h)) (fun xs _ => xs.map (·.1) = pcs s) (fun xs => xs.map (·.1) <+: pcs s) (s.length + 1) w := by
  intro l n J Bx W hn hl hW hJ hJc hY h0
  have b1 : Bk W h 9 _ := (hW.block _ h1.lt).trans h1
  have b2 : Bk W (h + 1) 9 _ := (hW.block _ h2.lt).trans h2
  have b3 : Bk W (h + 1 + 1) 3 _ := (hW.block _ h3.lt).trans h3
  have k2 : W.cell? ⟨h + 1, 0, none⟩ = some (.string ⟨#[10]⟩) := b2.cell 0
  have HY := Lib.hid hY
  have HJc := Lib.hid hJc
  clear h1 h2 h3 hJ hY hJc
  refine callsIn_of_wp Tryz.func160 rfl trivial ?_ rfl
  simp only [Tryz.ntmps160, List.size_toArray, List.length_cons, List.length_nil, Nat.reduceAdd, Nat.reduceSub, Array.replicate_succ, Array.replicate_zero, List.push_toArray, List.append_toArray, List.nil_append, List.cons_append]
  gi_wp2
  gi_loopw [7] (fun _ wr => ∃ (rest : B) (pre : List Ln), J pre wr ∧ Bk wr h 9 #[.string ⟨rest.toArray⟩] ∧ Bk wr (h + 1) 9 #[.string ⟨#[10]⟩] ∧ Bk wr (h + 1 + 1) 3 #[.int .i64 0] ∧ Hid (pre.map (·.1) ++ pcs rest = pcs s) ∧ rest.length ≤ s.length) (fun _ wr => strLen wr h)
  case atStart => exact ⟨s, [], h0, b1, b2, b3, rfl, Nat.le_refl _⟩
  case round =>
    obtain ⟨rest, pre, hJs, b1, b2, b3, hpre, hrl⟩ := hrel
    have k1 : wr.cell? ⟨h, 0, none⟩ = some (.string ⟨rest.toArray⟩) := b1.cell 0
    have k2 : wr.cell? ⟨h + 1, 0, none⟩ = some (.string ⟨#[10]⟩) := b2.cell 0
    have k3 : wr.cell? ⟨h + 1 + 1, 0, none⟩ = some (.int .i64 0) := b3.cell 0
    rcases first10 rest with hno | ⟨o, ho, hno⟩
    · have hlast : Hid ((pre ++ [(⟨rest, by omega⟩ : Ln)]).map (·.1) = pcs s) := by
        have := hpre.out
        rw [pcs_none rest hno] at this
        show _ = _
        simpa using this
      have hidx := Lib.hid (wIndex_no wr rest hno)
      have hlenp : pre.length < s.length + 1 := by
        have h1 := congrArg List.length hlast.out
        have h2 := pcs_length s
        simp at h1
        omega
      obtain ⟨fn, tmps, assign, body, hy, hR⟩ := HY.out pre ⟨rest, by omega⟩ wr hJs hlenp
      simp only [encsL] at hy
      clear hno hJs
      gi_wp2_with fail
      refine ⟨trivial, fun _ => by omega, ?_⟩
      refine (callsIn_wide.2 hidx.out).mono ?_
      rintro e w' ⟨rfl, rfl⟩
      gi_wp2_with fail
      refine ⟨fun h => (by cases h), ?_⟩
      refine (RoundIn.deep hR).mono ?_
      rintro e W3 (⟨rfl, hJ3, hR3, hK3⟩ | ⟨rfl, hB3, hs3, hK3⟩)
      · clear hK3
        gi_wp2_with fail
        go_end0
        exact ⟨⟨_, rfl⟩, .inl ⟨_, hlast.out, hJ3⟩⟩
      · clear hK3
        gi_wp2_with fail
        go_end0
        exact ⟨⟨_, rfl⟩, .inr ⟨_, ⟨[], by rw [List.append_nil]; exact hlast.out⟩, hB3⟩⟩
    · have hnext : Hid ((pre ++ [(⟨rest.take o, by simp; omega⟩ : Ln)]).map (·.1) ++ pcs (rest.drop (o + 1)) = pcs s) := by
        have := hpre.out
        rw [pcs_at rest o ho hno] at this
        show _ = _
        simpa using this
      have hlt : o < rest.length := (List.getElem?_eq_some_iff.1 ho).1
      have hidx := Lib.hid (wIndex_at wr rest o ho hno)
      have hlenp : pre.length < s.length + 1 := by
        have h1 := congrArg List.length hnext.out
        have h2 := pcs_length s
        simp at h1
        omega
      obtain ⟨fn, tmps, assign, body, hy, hR⟩ := HY.out pre ⟨rest.take o, by simp; omega⟩ wr hJs hlenp
      simp only [encsL] at hy
      have hex1 : (ByteArray.mk rest.toArray).extract 0 o = ⟨(rest.take o).toArray⟩ := by rw [extract_list, List.drop_zero]
      have hex2 : (ByteArray.mk rest.toArray).extract (o + 1) rest.length = ⟨(rest.drop (o + 1)).toArray⟩ := by rw [extract_list, List.take_length]
      have hz : decide ((o : Int) < 0) = false := by simp
      clear ho hno hJs
      gi_wp2_with fail
      refine ⟨trivial, fun _ => by omega, ?_⟩
      refine (callsIn_wide.2 hidx.out).mono ?_
      rintro e w' ⟨rfl, rfl⟩
      gi_wp2_with fail
      refine ⟨fun h => (by cases h), ?_⟩
      refine (RoundIn.deep hR).mono ?_
      rintro e W3 (⟨rfl, hJ3, hR3, hK3⟩ | ⟨rfl, hB3, hs3, hK3⟩)
      · have c1 := keepT_bk hR3 (.inl rfl) b1
        have c2 := keepT_bk hR3 (.inr (.inl rfl)) b2
        have c3 := keepT_bk hR3 (.inr (.inr rfl)) b3
        have q1 : W3.cell? ⟨h, 0, none⟩ = some (.string ⟨rest.toArray⟩) := c1.cell 0
        have q2 : W3.cell? ⟨h + 1, 0, none⟩ = some (.string ⟨#[10]⟩) := c2.cell 0
        have q3 : W3.frozen? ⟨h, 0, none⟩ = false := c1.frozen 0
        have hm : Hid (strLen wr h = rest.length) := strLen_of b1
        have hd : Bk (W3.setCell ⟨h, 0, none⟩ (.string ⟨(rest.drop (o + 1)).toArray⟩)) h 9 #[.string ⟨(rest.drop (o + 1)).toArray⟩] := c1.set 0 _
        clear hK3
        gi_wp2_with fail
        go_roundw
        case rel => exact ⟨rest.drop (o + 1), _, HJc.out _ _ _ hJ3, hd, c2.far (by simp) _, c3.far (by simp; omega) _, hnext, by simp; omega⟩
        case measure =>
          rw [strLen_of hd, hm.out, List.length_drop]
          omega
      · clear hK3
        gi_wp2_with fail
        refine bodyPost_ret (results_none rfl _ _ _) rfl ?_
        exact ⟨⟨_, rfl⟩, .inr ⟨_, ⟨_, hnext.out⟩, hB3⟩⟩
end Go.Proofs.YtkijckccfookeaaGreatDoor
/- The contract of the function 'end' inside words.split. -/
namespace Go.Proofs.YtkijckccfookeaaGreatDoor
open Go.RowKit
attribute [-go_sem] Builtin.append_

theorem infoW35 : (Tryz.prog.info? 124).map (fun i => (i.zero, i.size, i.bytes)) = some (some (.agg #[.int .i64 0, .int .i64 0, .string ⟨#[]⟩]), 3, 32) := by kernel_rfl
/-- the boxes of words.split: the line, its number, the words told, where the open one began -/
def BoxesW (h : Nat) (s : B) (n : Nat) (f : Int) (ws : List P3) (W : World) : Prop :=
  Bk W h 9 #[.string ⟨s.toArray⟩] ∧ Bk W (h + 1) 3 #[.int .i64 n] ∧ Bk W (h + 1 + 1 + 1) 3 #[.int .i64 f] ∧
    ∃ A c, Bk W (h + 1 + 1) 119 #[.slice A ws.length c] ∧ W.ownsRow (h + 1 + 1 + 1 + 1) 124 3 (.slice A ws.length c) ws.length (c3s ws)
def EndPost (h : Nat) (s : B) (n : Nat) (ws : List P3) (W : World) (e : Ending) (W' : World) : Prop :=
  e = .returned (.tuple #[]) ∧ BoxesW h s n (-1) ws W' ∧ Below h W W' ∧ KeepsOthers W W'
set_option maxHeartbeats 2000000 in
theorem wEnd_no (W : World) (h : Nat) (s : B) (n t : Nat) (ws : List P3) (hb : BoxesW h s n (-1) ws W) :
    Calls Tryz.prog 120 #[.int .i64 t, .pointer (some ⟨h + 1 + 1 + 1, 0, none⟩), .pointer (some ⟨h + 1 + 1, 0, none⟩), .pointer (some ⟨h + 1, 0, none⟩), .pointer (some ⟨h, 0, none⟩)] W (EndPost h s n ws W) := by
  obtain ⟨h1, h2, h3, A, c, h4, h5⟩ := hb
  have c3 : W.cell? ⟨h + 1 + 1 + 1, 0, none⟩ = some (.int .i64 (-1)) := h3.cell 0
  have f3 := h3.frozen 0
  have Hp : Hid (EndPost h s n ws W (.returned (.tuple #[])) (W.setCell ⟨h + 1 + 1 + 1, 0, none⟩ (.int .i64 (-1)))) := by
    refine ⟨rfl, ⟨h1.far (by simp; omega) _, h2.far (by simp) _, h3.set 0 _, A, c, h4.far (by simp) _, ?_⟩, (Below.refl _ _).setCell (by simp; omega) _, KeepsOthers.setCell _ _ _⟩
    exact ownsRow_setCell_below h5 (by simp) _
  clear h1 h2 h4 h5
  go_enter Tryz.func120, Tryz.ntmps120
  go_wp2
  go_end0
  exact Hp.out
set_option maxRecDepth 100000 in
set_option maxHeartbeats 4000000 in
theorem wEnd_yes (W : World) (h : Nat) (s : B) (n f t : Nat) (ws : List P3) (hb : BoxesW h s n f ws W) (hft : f ≤ t) (hts : t ≤ s.length) (hs : s.length ≤ 1000000) (hw : ws.length ≤ 1000000) :
    Calls Tryz.prog 120 #[.int .i64 t, .pointer (some ⟨h + 1 + 1 + 1, 0, none⟩), .pointer (some ⟨h + 1 + 1, 0, none⟩), .pointer (some ⟨h + 1, 0, none⟩), .pointer (some ⟨h, 0, none⟩)] W (EndPost h s n (ws ++ [((n : Int), (f : Int), (s.take t).drop f)]) W) := by
  obtain ⟨i0, hi0, hz0, hz1, hz2⟩ := info_parts infoW35
  obtain ⟨h1, h2, h3, A, c, h4, h5⟩ := hb
  have k1 : W.cell? ⟨h, 0, none⟩ = some (.string ⟨s.toArray⟩) := h1.cell 0
  have k2 : W.cell? ⟨h + 1, 0, none⟩ = some (.int .i64 n) := h2.cell 0
  have k3 : W.cell? ⟨h + 1 + 1 + 1, 0, none⟩ = some (.int .i64 f) := h3.cell 0
  have k4 : W.cell? ⟨h + 1 + 1, 0, none⟩ = some (.slice A ws.length c) := h4.cell 0
  have f3 := h3.frozen 0
  have f4 := h4.frozen 0
  have zl := h3.lt
  have hex : (ByteArray.mk s.toArray).extract f t = ⟨((s.take t).drop f).toArray⟩ := extract_list s f t
  obtain ⟨T, hT⟩ : ∃ T, (s.take t).drop f = T := ⟨_, rfl⟩
  rw [hT] at hex ⊢
  clear hT
  have hlow : Hid (∀ k, k < h + 1 + 1 + 1 + 1 → some k ≠ (Value.slice A ws.length c).ownBlock) := fun k hk e => by have := (h5.lt k e.symm).1; omega
  have Hp : Hid (∀ (v1 : Value) (w1 : World), w1.ownsRow (h + 1 + 1 + 1 + 1) 124 3 v1 (ws.length + 1) (c3s ws ++ [.int .i64 n, .int .i64 f, .string ⟨T.toArray⟩]) → (W.alloc (.cells #[.int .i64 n, .int .i64 f, .string ⟨T.toArray⟩] 124)).drew.grownBy w1 (Value.slice A ws.length c).ownBlock →
      EndPost h s n (ws ++ [((n : Int), (f : Int), T)]) W (.returned (.tuple #[])) ((w1.setCell ⟨h + 1 + 1, 0, none⟩ v1).setCell ⟨h + 1 + 1 + 1, 0, none⟩ (.int .i64 (-1)))) := by
    intro v1 w1 hown hg
    obtain ⟨A1, c1, rfl, -⟩ := Rd.of_own hown
    have hfar : ∀ k, k < h + 1 + 1 + 1 + 1 → w1.heap[k]? = W.heap[k]? := fun k hk => (hg.block k (by simp; omega) (hlow.out k hk)).trans (Below.heap_alloc _ _ _ (by omega))
    have b1 : Bk w1 h 9 _ := (hfar _ (by omega)).trans h1
    have b2 : Bk w1 (h + 1) 3 _ := (hfar _ (by omega)).trans h2
    have b3 : Bk w1 (h + 1 + 1 + 1) 3 _ := (hfar _ (by omega)).trans h3
    have b4 : Bk w1 (h + 1 + 1) 119 _ := (hfar _ (by omega)).trans h4
    refine ⟨rfl, ⟨(b1.far (by simp; omega) _).far (by simp; omega) _, (b2.far (by simp) _).far (by simp) _, (b3.far (by simp) _).set 0 _, A1, c1, ?_, ?_⟩, ?_, ?_⟩
    · have := (b4.set 0 (.slice A1 (ws.length + 1) c1)).far (p := ⟨h + 1 + 1 + 1, 0, none⟩) (by simp) (.int .i64 (-1))
      simpa using this
    · have := ownsRow_setCell_below (ownsRow_setCell_below hown (a := ⟨h + 1 + 1, 0, none⟩) (by simp) (.slice A1 (ws.length + 1) c1)) (a := ⟨h + 1 + 1 + 1, 0, none⟩) (by simp) (.int .i64 (-1))
      rw [c3s_append]
      simpa [c3s, c3] using this
    · exact ((((Below.refl h W).alloc (by omega) _).drew.grown hg (by simp; omega) (fun g hg' => by have := (h5.lt g hg').1; omega)).setCell (by simp; omega) _).setCell (by simp; omega) _
    · have ka : KeepsOthers W (W.alloc (.cells #[.int .i64 n, .int .i64 f, .string ⟨T.toArray⟩] 124)).drew := ⟨(KeepsOthers.alloc W _).size, (KeepsOthers.alloc W _).same⟩
      refine KeepsOthers.trans (KeepsOthers.trans (KeepsOthers.trans ka (KeepsOthers.of_grownBy hg (fun j o hj ho => ?_))) (KeepsOthers.setCell _ _ _)) (KeepsOthers.setCell _ _ _)
      obtain ⟨cur, hk⟩ := own_bk (h5.alloc (.cells #[.int .i64 n, .int .i64 f, .string ⟨T.toArray⟩] 124)) j hj
      have hk2 : (W.alloc (.cells #[.int .i64 n, .int .i64 f, .string ⟨T.toArray⟩] 124)).drew.heap[j]? = _ := hk
      rw [hk2] at ho
      cases ho
      rfl
  obtain ⟨v1, w1, hrun, hown1, hg1, -⟩ := run_append_any (P := Tryz.prog) ((W.alloc (.cells #[.int .i64 n, .int .i64 f, .string ⟨T.toArray⟩] 124)).drew) (h + 1 + 1 + 1 + 1) 119 119 124 i0 _ 3 32 Tryz.underlying119 hi0 hz0 hz1 hz2 rfl (by decide) (.slice A ws.length c) ws.length (c3s ws) (h5.alloc _).drew (W.heap.size + 1) (some ⟨W.heap.size, 0, none⟩) 1 1 [.int .i64 n, .int .i64 f, .string ⟨T.toArray⟩] (Rd.drew (Rd.newAt _ _ (by simp) #[.int .i64 n, .int .i64 f, .string ⟨T.toArray⟩] 124 1 3 rfl)) (by simp [Value.oneCell']) (by simp only [maxLen]; omega) (by omega) (by simp; omega)
  obtain ⟨A1, c1, rfl, -⟩ := Rd.of_own hown1
  have Hp2 := Lib.hid (Hp.out _ _ hown1 hg1)
  have b4 : Bk w1 (h + 1 + 1) 119 #[.slice A ws.length c] := (hg1.block (h + 1 + 1) (by simp; omega) (hlow.out _ (by omega))).trans (h4.alloc _)
  have x4 : w1.cell? ⟨h + 1 + 1, 0, none⟩ = some (.slice A ws.length c) := b4.cell 0
  have y4 : w1.frozen? ⟨h + 1 + 1, 0, none⟩ = false := b4.frozen 0
  have b3 : Bk w1 (h + 1 + 1 + 1) 3 #[.int .i64 f] := (hg1.block (h + 1 + 1 + 1) (by simp; omega) (hlow.out _ (by omega))).trans (h3.alloc _)
  have x3 : w1.cell? ⟨h + 1 + 1 + 1, 0, none⟩ = some (.int .i64 f) := b3.cell 0
  have y3 : w1.frozen? ⟨h + 1 + 1 + 1, 0, none⟩ = false := b3.frozen 0
  have q4 : (W.alloc (.cells #[.int .i64 n, .int .i64 f, .string ⟨T.toArray⟩] 124)).cell? ⟨h + 1 + 1, 0, none⟩ = some (.slice A ws.length c) := (h4.alloc _).cell 0
  clear hown1 hg1 b3 b4 h1 h2 h3 h4 h5 hlow Hp hi0 hz0 hz1 hz2
  go_enter Tryz.func120, Tryz.ntmps120
  go_wp2_with fail
  go_region
  all_goals
    go_wp2
    go_end0
    exact Hp2.out
end Go.Proofs.YtkijckccfookeaaGreatDoor
