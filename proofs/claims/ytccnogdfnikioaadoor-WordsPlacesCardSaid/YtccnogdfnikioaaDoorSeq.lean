/- strings.SplitSeq at the separator of one byte 10: what it hands on, one by one. -/
import Derived.RangeFuncNested
import Derived.RangeFuncBound
import Derived.RangeFuncCalls
import Derived.RangeFuncLeaves
import Derived.RangeFuncBox
import Derived.Shelf.Abstract
import Derived.Shelf.RegionOpen
import Derived.OwnWalkIn
import Derived.TacticsInMore
import Derived.LoopNIn
import Derived.LoopIn
import Derived.Test.YtccnogdfnikioaaDoorIndex
import Derived.Test.YtccnogdfnikioaaDoorPureLines
import Derived.Test.YtccnogdfnikioaaDoorRangeCell
namespace Go.Proofs.YtccnogdfnikioaaDoor
open Go.RowKit Go.Shelf
attribute [local go_sem] Oper.semAt_some

theorem index_no (w : World) (s : B) (h : ∀ c ∈ s, c ≠ 10) : Calls Tryd.prog 39 #[.string ⟨s.toArray⟩, .string ⟨#[10]⟩] w fun e w' => e = .returned (.int .i64 (-1)) ∧ w = w' := by
  refine (index_ok w s).mono ?_
  rintro e w' ⟨rfl, rfl⟩
  refine ⟨?_, rfl⟩
  have : Lib.indexByte s 10 = -1 := by
    by_cases h1 : Lib.indexByte s 10 = -1
    · exact h1
    · have hge := Lib.indexByte_ge s 10
      obtain ⟨h2, -⟩ := Lib.indexByte_some (l := s) (c := 10) (o := (Lib.indexByte s 10).toNat) (by omega)
      exact absurd rfl (h 10 (List.mem_of_getElem? h2))
  rw [this]
theorem index_at (w : World) (s : B) (o : Nat) (h : s[o]? = some 10) (hn : ∀ c ∈ s.take o, c ≠ 10) : Calls Tryd.prog 39 #[.string ⟨s.toArray⟩, .string ⟨#[10]⟩] w fun e w' => e = .returned (.int .i64 o) ∧ w = w' := by
  refine (index_ok w s).mono ?_
  rintro e w' ⟨rfl, rfl⟩
  refine ⟨?_, rfl⟩
  have : Lib.indexByte s 10 = o := by
    by_cases h1 : Lib.indexByte s 10 = -1
    · exact absurd h (Lib.indexByte_none h1 o)
    · have hge := Lib.indexByte_ge s 10
      obtain ⟨h2, h3⟩ := Lib.indexByte_some (l := s) (c := 10) (o := (Lib.indexByte s 10).toNat) (by omega)
      have a1 : ¬ (Lib.indexByte s 10).toNat < o := fun hlt => hn 10 (by
        rw [List.mem_iff_getElem?]
        exact ⟨_, by rw [List.getElem?_take, if_pos hlt]; exact h2⟩) rfl
      have a2 : ¬ o < (Lib.indexByte s 10).toNat := fun hlt => h3 o hlt h
      omega
  rw [this]
theorem first10 (s : B) : (∀ c ∈ s, c ≠ 10) ∨ ∃ o, s[o]? = some 10 ∧ ∀ c ∈ s.take o, c ≠ 10 := by
  induction s with
  | nil => left; simp
  | cons c r ih =>
    by_cases hc : c = 10
    · right; exact ⟨0, by simp [hc], by simp⟩
    · rcases ih with h | ⟨o, h1, h2⟩
      · left
        intro d hd
        rcases List.mem_cons.1 hd with rfl | hd
        · exact hc
        · exact h d hd
      · right
        refine ⟨o + 1, by simpa using h1, fun d hd => ?_⟩
        rw [List.take_succ_cons] at hd
        rcases List.mem_cons.1 hd with rfl | hd
        · exact hc
        · exact h2 d hd
theorem pcs_at (s : B) (o : Nat) (h : s[o]? = some 10) (hn : ∀ c ∈ s.take o, c ≠ 10) : pcs s = s.take o :: pcs (s.drop (o + 1)) := by
  have := pcs_cut s 0 o h (by omega) (by simpa using hn)
  simpa using this
theorem pcs_length (s : B) : (pcs s).length ≤ s.length + 1 := by
  induction s with
  | nil => simp [pcs]
  | cons c r ih =>
    rw [pcs]
    split
    · simp; omega
    · split <;> rename_i h <;> rw [h] at ih <;> simp at ih ⊢
      omega
theorem RoundIn.deep {P : Program} {l m k : Nat} {f : FuncId} {tmps : Array Value} {assign body : Code} {w : World} {R : Ending → World → Prop} (h : RoundIn Fence.wide m P l f tmps assign body w R) : RoundIn Fence.wide k P l f tmps assign body w R :=
  ⟨h.1, fun c cs _ => h.2 c cs (fun _ hd => by cases hd)⟩
def strLen (W : World) (b : Nat) : Nat := match W.cell? ⟨b, 0, none⟩ with | some (.string s) => s.size | _ => 0
theorem strLen_of {W : World} {b : Nat} {s : B} (h : Bk W b 9 #[.string ⟨s.toArray⟩]) : strLen W b = s.length := by
  have : W.cell? ⟨b, 0, none⟩ = some (.string ⟨s.toArray⟩) := h.cell 0
  simp [strLen, this]
  rfl
abbrev Ln := { x : B // x.length ≤ 1000000 }
def encsL (x : Ln) : Array Value := #[.string ⟨x.1.toArray⟩]
def SeqT (h : Nat) (b : Nat) : Prop := b = h ∨ b = h + 1 ∨ b = h + 1 + 1
theorem keepT_bk {T : Nat → Prop} {W W' : World} (h : KeepT T W W') {b : Nat} (hb : T b) {t : TypeId} {cs : Array Value} (hk : Bk W b t cs) : Bk W' b t cs := h b hb _ hk rfl
set_option maxRecDepth 100000 in
set_option maxHeartbeats 4000000 in
theorem seq_gives (w : World) (h : Nat) (s : B) (hs : s.length ≤ 1000000) (h1 : Bk w h 9 #[.string ⟨s.toArray⟩]) (h2 : Bk w (h + 1) 9 #[.string ⟨#[10]⟩]) (h3 : Bk w (h + 1 + 1) 3 #[.int .i64 0]) :
    Gives Tryd.prog h 37 #[.pointer (some ⟨h + 1, 0, none⟩), .pointer (some ⟨h, 0, none⟩), .pointer (some ⟨h + 1 + 1, 0, none⟩)] encsL (KeepT (SeqT h)) (fun xs _ => xs.map (·.1) = pcs s) (fun xs => xs.map (·.1) <+: pcs s) (s.length + 1) w := by
  intro l n J Bx W hn hl hW hJ hJc hY h0
  have b1 : Bk W h 9 _ := (hW.block _ h1.lt).trans h1
  have b2 : Bk W (h + 1) 9 _ := (hW.block _ h2.lt).trans h2
  have b3 : Bk W (h + 1 + 1) 3 _ := (hW.block _ h3.lt).trans h3
  have k2 : W.cell? ⟨h + 1, 0, none⟩ = some (.string ⟨#[10]⟩) := b2.cell 0
  have HY := Lib.hid hY
  have HJc := Lib.hid hJc
  clear h1 h2 h3 hJ hY hJc
  refine callsIn_of_wp Tryd.func37 rfl trivial ?_ rfl
  simp only [Tryd.ntmps37, List.size_toArray, List.length_cons, List.length_nil, Nat.reduceAdd, Nat.reduceSub, Array.replicate_succ, Array.replicate_zero, List.push_toArray, List.append_toArray, List.nil_append, List.cons_append]
  gi_wp2
  gi_loopw [7] (fun _ wr => ∃ (rest : B) (pre : List Ln), J pre wr ∧ Bk wr h 9 #[.string ⟨rest.toArray⟩] ∧ Bk wr (h + 1) 9 #[.string ⟨#[10]⟩] ∧ Bk wr (h + 1 + 1) 3 #[.int .i64 0] ∧ Hid (pre.map (·.1) ++ pcs rest = pcs s) ∧ rest.length ≤ s.length) (fun _ wr => strLen wr h)
  case atStart => exact ⟨s, [], h0, b1, b2, b3, rfl, Nat.le_refl _⟩
  case round =>
    obtain ⟨rest, pre, hJs, b1, b2, b3, hpre, hrl⟩ := hrel
    have k1 : wr.cell? ⟨h, 0, none⟩ = some (.string ⟨rest.toArray⟩) := b1.cell 0
    have k2 : wr.cell? ⟨h + 1, 0, none⟩ = some (.string ⟨#[10]⟩) := b2.cell 0
    have k3 : wr.cell? ⟨h + 1 + 1, 0, none⟩ = some (.int .i64 0) := b3.cell 0
    rcases first10 rest with hno | ⟨o, ho, hno⟩
    · have hlast : Hid ((pre ++ [(⟨rest, by omega⟩ : Ln)]).map (·.1) = pcs s) := by
        have := hpre.out
        rw [pcs_none rest hno] at this
        show _ = _
        simpa using this
      have hidx := Lib.hid (index_no wr rest hno)
      have hlenp : pre.length < s.length + 1 := by
        have h1 := congrArg List.length hlast.out
        have h2 := pcs_length s
        simp at h1
        omega
      obtain ⟨fn, tmps, assign, body, hy, hR⟩ := HY.out pre ⟨rest, by omega⟩ wr hJs hlenp
      simp only [encsL] at hy
      clear hno hJs
      gi_wp2_with fail
      refine ⟨trivial, fun _ => by omega, ?_⟩
      refine (callsIn_wide.2 hidx.out).mono ?_
      rintro e w' ⟨rfl, rfl⟩
      gi_wp2_with fail
      refine ⟨fun h => (by cases h), ?_⟩
      refine (RoundIn.deep hR).mono ?_
      rintro e W3 (⟨rfl, hJ3, hR3, hK3⟩ | ⟨rfl, hB3, hs3, hK3⟩)
      · clear hK3
        gi_wp2_with fail
        go_end0
        exact ⟨⟨_, rfl⟩, .inl ⟨_, hlast.out, hJ3⟩⟩
      · clear hK3
        gi_wp2_with fail
        go_end0
        exact ⟨⟨_, rfl⟩, .inr ⟨_, ⟨[], by rw [List.append_nil]; exact hlast.out⟩, hB3⟩⟩
    · have hnext : Hid ((pre ++ [(⟨rest.take o, by simp; omega⟩ : Ln)]).map (·.1) ++ pcs (rest.drop (o + 1)) = pcs s) := by
        have := hpre.out
        rw [pcs_at rest o ho hno] at this
        show _ = _
        simpa using this
      have hlt : o < rest.length := (List.getElem?_eq_some_iff.1 ho).1
      have hidx := Lib.hid (index_at wr rest o ho hno)
      have hlenp : pre.length < s.length + 1 := by
        have h1 := congrArg List.length hnext.out
        have h2 := pcs_length s
        simp at h1
        omega
      obtain ⟨fn, tmps, assign, body, hy, hR⟩ := HY.out pre ⟨rest.take o, by simp; omega⟩ wr hJs hlenp
      simp only [encsL] at hy
      have hex1 : (ByteArray.mk rest.toArray).extract 0 o = ⟨(rest.take o).toArray⟩ := by rw [extract_list, List.drop_zero]
      have hex2 : (ByteArray.mk rest.toArray).extract (o + 1) rest.length = ⟨(rest.drop (o + 1)).toArray⟩ := by rw [extract_list, List.take_length]
      have hz : decide ((o : Int) < 0) = false := by simp
      clear ho hno hJs
      gi_wp2_with fail
      refine ⟨trivial, fun _ => by omega, ?_⟩
      refine (callsIn_wide.2 hidx.out).mono ?_
      rintro e w' ⟨rfl, rfl⟩
      gi_wp2_with fail
      refine ⟨fun h => (by cases h), ?_⟩
      refine (RoundIn.deep hR).mono ?_
      rintro e W3 (⟨rfl, hJ3, hR3, hK3⟩ | ⟨rfl, hB3, hs3, hK3⟩)
      · have c1 := keepT_bk hR3 (.inl rfl) b1
        have c2 := keepT_bk hR3 (.inr (.inl rfl)) b2
        have c3 := keepT_bk hR3 (.inr (.inr rfl)) b3
        have q1 : W3.cell? ⟨h, 0, none⟩ = some (.string ⟨rest.toArray⟩) := c1.cell 0
        have q2 : W3.cell? ⟨h + 1, 0, none⟩ = some (.string ⟨#[10]⟩) := c2.cell 0
        have q3 : W3.frozen? ⟨h, 0, none⟩ = false := c1.frozen 0
        have hm : Hid (strLen wr h = rest.length) := strLen_of b1
        have hd : Bk (W3.setCell ⟨h, 0, none⟩ (.string ⟨(rest.drop (o + 1)).toArray⟩)) h 9 #[.string ⟨(rest.drop (o + 1)).toArray⟩] := c1.set 0 _
        clear hK3
        gi_wp2_with fail
        go_roundw
        case rel => exact ⟨rest.drop (o + 1), _, HJc.out _ _ _ hJ3, hd, c2.far (by simp) _, c3.far (by simp; omega) _, hnext, by simp; omega⟩
        case measure =>
          rw [strLen_of hd, hm.out, List.length_drop]
          omega
      · clear hK3
        gi_wp2_with fail
        refine bodyPost_ret (results_none rfl _ _ _) rfl ?_
        exact ⟨⟨_, rfl⟩, .inr ⟨_, ⟨_, hnext.out⟩, hB3⟩⟩
end Go.Proofs.YtccnogdfnikioaaDoor
