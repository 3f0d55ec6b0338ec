/- The contract of fleuronref05.Lines. -/
import Derived.Test.YtccnogdfnikioaaDoorRefOne
import Derived.Test.YtccnogdfnikioaaDoorPureLines
namespace Go.Proofs.YtccnogdfnikioaaDoor
open Go.RowKit

theorem info33 : (Tryd.prog.info? 33).map (fun i => (i.zero, i.size, i.bytes)) = some (some (.slice none 0 0), 1, 24) := by kernel_rfl
def LinesInv (s : B) (w : World) (i fr ln : Nat) (v : Value) (wr : World) : Prop :=
  ∃ (done : List B) (hs : List Value), ln = done.length + 1 ∧ done.length ≤ i ∧ hs.length ≤ done.length ∧ wr.ownsRow w.heap.size 33 1 v hs.length hs ∧ RowsIn 36 wr hs (linesFrom 1 done) ∧ Below w.heap.size w wr ∧
    ((i ≤ s.length ∧ fr ≤ i ∧ pcs s = done ++ pcs (s.drop fr) ∧ ∀ c ∈ (s.take i).drop fr, c ≠ 10) ∨ (i = s.length + 1 ∧ pcs s = done))
theorem linesInv_next {s : B} {w : World} {i fr ln : Nat} {v : Value} {wr : World} {c : UInt8} (h : LinesInv s w i fr ln v wr) (hc : s[i]? = some c) (h10 : c ≠ 10) : LinesInv s w (i + 1) fr ln v wr := by
  obtain ⟨done, hs, h1, h2, h3, h4, h5, h6, h7⟩ := h
  have hi := (List.getElem?_eq_some_iff.1 hc).1
  rcases h7 with ⟨h7, h8, h9, h10'⟩ | ⟨h7, -⟩
  · exact ⟨done, hs, h1, by omega, h3, h4, h5, h6, .inl ⟨by omega, by omega, h9, no10_snoc s fr i c hc h8 h10 h10'⟩⟩
  · omega

set_option maxRecDepth 100000 in
set_option maxHeartbeats 4000000 in
theorem refLines_ok (w : World) (s : B) (hs : s.length ≤ 100000) : Calls Tryd.prog 16 #[.string ⟨s.toArray⟩] w fun e w' => ∃ v, e = .returned v ∧ RetRows 36 33 w w' (linesL s) v := by
  obtain ⟨i0, hi0, hz0, hz1, hz2⟩ := info_parts info33
  have hP : (w.alloc (.cells #[] 33)).ownsRow w.heap.size 33 1 (.slice (some ⟨w.heap.size, 0, none⟩) 0 0) 0 [] := World.ownsRow_made w #[] 0 (Nat.le_refl _) (by simp [maxLen]) rfl
  go_enter Tryd.func16, Tryd.ntmps16
  go_wp2
  go_loopw [3, 4, 5, 6] (fun v f l i wr => ∃ fr ln k : Nat, f = .int .i64 fr ∧ l = .int .i64 ln ∧ i = .int .i64 k ∧ LinesInv s w k fr ln v wr) (fun _ _ _ i _ => s.length + 1 - (intOf i).toNat)
  case atStart =>
    refine ⟨0, 1, 0, rfl, rfl, rfl, [], [], rfl, by simp, by simp, hP, RowsIn.nil _ _, (Below.refl _ _).alloc (Nat.le_refl _) _, .inl ⟨by omega, by omega, by simp, no10_nil s 0⟩⟩
  case round =>
    obtain ⟨fr, ln, k, rfl, rfl, rfl, hinv⟩ := hrel
    by_cases hgo : ∃ c, s[k]? = some c ∧ c ≠ 10
    · obtain ⟨c, hc, h10⟩ := hgo
      have hlt : k < s.length := (List.getElem?_eq_some_iff.1 hc).1
      have hb := byte_at s k c hc hlt
      have h10' : ((c.toNat : Int) != 10) = true := by
        simp
        intro h
        exact h10 (UInt8.toNat_inj.1 (by show c.toNat = 10; omega))
      have hinv' := linesInv_next hinv hc h10
      clear hinv hc
      go_wp2
      go_roundw
      case rel => exact ⟨fr, ln, k + 1, rfl, rfl, by simp, hinv'⟩
      case measure => simp [intOf]; omega
    · by_cases hk : k ≤ s.length
      · obtain ⟨done, hs', hln, hdl, hhl, how, hrows, hbl, hin⟩ := hinv
        have hin2 : fr ≤ k ∧ pcs s = done ++ pcs (s.drop fr) ∧ ∀ c ∈ (s.take k).drop fr, c ≠ 10 := by
          rcases hin with ⟨_, h⟩ | ⟨h, -⟩
          · exact h
          · omega
        clear hin
        obtain ⟨hfk, hpc, hno⟩ := hin2
        have hway : (k = s.length ∧ pcs s = done ++ [(s.take k).drop fr]) ∨ (s[k]? = some 10 ∧ pcs s = (done ++ [(s.take k).drop fr]) ++ pcs (s.drop (k + 1))) := by
          by_cases hlt : k < s.length
          · right
            have h1 : s[k]? = some 10 := by
              rw [List.getElem?_eq_getElem hlt]
              congr 1
              by_cases h : s[k] = 10
              · exact h
              · exact absurd ⟨_, List.getElem?_eq_getElem hlt, h⟩ hgo
            refine ⟨h1, ?_⟩
            rw [hpc, pcs_cut s fr k h1 hfk hno]
            simp
          · left
            obtain rfl : k = s.length := by omega
            refine ⟨rfl, ?_⟩
            rw [hpc, pcs_last s fr hno]
        clear hgo hpc hno
        have hex : (ByteArray.mk s.toArray).extract fr k = ⟨((s.take k).drop fr).toArray⟩ := extract_list s fr k
        have hlp : ((s.take k).drop fr).length ≤ 100000 := by simp; omega
        generalize (s.take k).drop fr = p at *
        have hol := one_len p
        have hdone : Hid (∀ (v : Value) (hs2 : List Value) (W : World), hs2.length ≤ done.length + 1 → W.ownsRow w.heap.size 33 1 v hs2.length hs2 → RowsIn 36 W hs2 (linesFrom 1 (done ++ [p])) → Below w.heap.size w W → LinesInv s w (k + 1) (k + 1) (ln + 1) v W) := by
          intro v hs2 W h1 h2 h3 h4
          refine ⟨done ++ [p], hs2, by simp; omega, by simp; omega, by simpa using h1, h2, h3, h4, ?_⟩
          rcases hway with ⟨h, hp⟩ | ⟨h, hp⟩
          · exact .inr ⟨by omega, hp⟩
          · have := (List.getElem?_eq_some_iff.1 h).1
            exact .inl ⟨by omega, by omega, hp, no10_nil s (k + 1)⟩
        have hsn := Lib.hid (linesFrom_snoc done p)
        have hway2 : k = s.length ∨ s[k]? = some 10 := hway.imp And.left And.left
        clear hway
        obtain ⟨A1, c1, rfl, -⟩ := Rd.of_own how
        have hsz := hbl.size
        obtain ⟨W1, hW1⟩ : ∃ W1, W1 = wr := ⟨_, rfl⟩
        subst hW1
        have Hhl := Lib.hid hhl
        clear hhl
        have hhl2 : hs'.length ≤ 100001 := by have := Hhl.out; omega
        have hlnb : ln ≤ 100001 := by omega
        have Hln := Lib.hid hln
        clear hln hdl
        rcases hway2 with hkl | hc
        · have hge : s.length ≤ k := by omega
          clear hkl
          by_cases hz : one p = []
          · have hp0 : ¬ 0 < (one p).length := by simp [hz]
            have Hz := Lib.hid hz
            clear hz
            go_wp2_with (first | (go_at_call 29; refine (refOne_ok _ p ln hlp (by omega)).mono ?_; rintro e w1 ⟨v1, rfl, hown1, hb1⟩; obtain ⟨A2, c2, rfl, -⟩ := Rd.of_own hown1))
            go_roundw
            case rel =>
              refine ⟨k + 1, ln + 1, k + 1, by simp, by simp, by simp, hdone.out _ hs' _ (by have := Hhl.out; omega) (own_below how hb1) ?_ (hbl.trans (hb1.mono hsz))⟩
              rw [hsn.out, if_pos Hz.out, List.append_nil]
              exact hrows.below hb1
            case measure => simp [intOf]; omega
          · have hp0 : 0 < (one p).length := List.length_pos_iff.2 hz
            have Hz := Lib.hid hz
            clear hz
            go_wp2_with (first | (go_at_call 29; refine (refOne_ok _ p ln hlp (by omega)).mono ?_; rintro e w1 ⟨v1, rfl, hown1, hb1⟩; obtain ⟨A2, c2, rfl, -⟩ := Rd.of_own hown1) | (at_builtin; refine wpList_append_any _ rfl (.tmp 34) (.tmp 36) 27 rfl w.heap.size 33 i0 _ 1 24 Tryd.underlying27 hi0 hz0 hz1 hz2 rfl (by decide) (.slice A1 hs'.length c1) hs'.length hs' rfl ((own_below how hb1).alloc _) (w1.heap.size + 1) (some ⟨w1.heap.size, 0, none⟩) 1 1 [.slice A2 (one p).length c2] rfl (by exact Rd.newAt _ _ (by simp) #[.slice A2 (one p).length c2] 33 1 1 rfl) (by simp [Value.oneCell']) (by simp only [maxLen]; omega) (by omega) (by have := hb1.size; simp; omega) ?_; intro v2 w2 hown2 hg2 _))
            go_roundw
            case rel =>
              refine ⟨k + 1, ln + 1, k + 1, by simp, by simp, by simp, hdone.out _ (hs' ++ [.slice A2 (one p).length c2]) _ (by have := Hhl.out; simp; omega) (by simpa using hown2) ?_ (((hbl.trans (hb1.mono hsz)).alloc (by have := hb1.size; omega) _).grown hg2 (by have := hb1.size; simp; omega) (fun g hg => (how.lt g hg).1))⟩
              rw [hsn.out, if_neg Hz.out]
              have hrd : RdT w1 36 A2 (one p).length 3 (c3s (num (done.length + 1) (one p))) := by rw [← Hln.out]; exact own_rdT hown1
              exact ((((hrows.below hb1).snoc hrd).alloc _).grown ((own_below how hb1).alloc _) hg2 (by decide))
            case measure => simp [intOf]; omega
        · have hlt : k < s.length := (List.getElem?_eq_some_iff.1 hc).1
          have hb := byte_at s k _ hc hlt
          clear hc
          by_cases hz : one p = []
          · have hp0 : ¬ 0 < (one p).length := by simp [hz]
            have Hz := Lib.hid hz
            clear hz
            go_wp2_with (first | (go_at_call 29; refine (refOne_ok _ p ln hlp (by omega)).mono ?_; rintro e w1 ⟨v1, rfl, hown1, hb1⟩; obtain ⟨A2, c2, rfl, -⟩ := Rd.of_own hown1))
            go_roundw
            case rel =>
              refine ⟨k + 1, ln + 1, k + 1, by simp, by simp, by simp, hdone.out _ hs' _ (by have := Hhl.out; omega) (own_below how hb1) ?_ (hbl.trans (hb1.mono hsz))⟩
              rw [hsn.out, if_pos Hz.out, List.append_nil]
              exact hrows.below hb1
            case measure => simp [intOf]; omega
          · have hp0 : 0 < (one p).length := List.length_pos_iff.2 hz
            have Hz := Lib.hid hz
            clear hz
            go_wp2_with (first | (go_at_call 29; refine (refOne_ok _ p ln hlp (by omega)).mono ?_; rintro e w1 ⟨v1, rfl, hown1, hb1⟩; obtain ⟨A2, c2, rfl, -⟩ := Rd.of_own hown1) | (at_builtin; refine wpList_append_any _ rfl (.tmp 34) (.tmp 36) 27 rfl w.heap.size 33 i0 _ 1 24 Tryd.underlying27 hi0 hz0 hz1 hz2 rfl (by decide) (.slice A1 hs'.length c1) hs'.length hs' rfl ((own_below how hb1).alloc _) (w1.heap.size + 1) (some ⟨w1.heap.size, 0, none⟩) 1 1 [.slice A2 (one p).length c2] rfl (by exact Rd.newAt _ _ (by simp) #[.slice A2 (one p).length c2] 33 1 1 rfl) (by simp [Value.oneCell']) (by simp only [maxLen]; omega) (by omega) (by have := hb1.size; simp; omega) ?_; intro v2 w2 hown2 hg2 _))
            go_roundw
            case rel =>
              refine ⟨k + 1, ln + 1, k + 1, by simp, by simp, by simp, hdone.out _ (hs' ++ [.slice A2 (one p).length c2]) _ (by have := Hhl.out; simp; omega) (by simpa using hown2) ?_ (((hbl.trans (hb1.mono hsz)).alloc (by have := hb1.size; omega) _).grown hg2 (by have := hb1.size; simp; omega) (fun g hg => (how.lt g hg).1))⟩
              rw [hsn.out, if_neg Hz.out]
              have hrd : RdT w1 36 A2 (one p).length 3 (c3s (num (done.length + 1) (one p))) := by rw [← Hln.out]; exact own_rdT hown1
              exact ((((hrows.below hb1).snoc hrd).alloc _).grown ((own_below how hb1).alloc _) hg2 (by decide))
            case measure => simp [intOf]; omega
      · obtain ⟨done, hs', -, hdl, hhl, how, hrows, hbl, hin⟩ := hinv
        have hin2 : pcs s = done := by
          rcases hin with ⟨h, _⟩ | ⟨-, h⟩
          · omega
          · exact h
        have hkl : s.length < k := by omega
        clear hgo hin
        go_wp2
        go_ret
        obtain ⟨A1, c1, rfl, -⟩ := Rd.of_own how
        have hl : hs'.length = (linesL s).length := by rw [hrows.1, linesL, hin2]
        refine ⟨_, rfl, A1, c1, hs', by rw [hl]; rfl, ?_, ?_, hbl⟩
        · rw [← hl]
          exact own_rdT how
        · rw [linesL, hin2]
          exact hrows
end Go.Proofs.YtccnogdfnikioaaDoor
