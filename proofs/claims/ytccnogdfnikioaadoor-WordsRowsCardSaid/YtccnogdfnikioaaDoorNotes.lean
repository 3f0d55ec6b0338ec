/- fleuronlaw05.WordsNotes returns true. -/
import Derived.Test.YtccnogdfnikioaaDoorShown
import Derived.Test.YtccnogdfnikioaaDoorAll
import Derived.Test.YtccnogdfnikioaaDoorPureNotes
namespace Go.Proofs.YtccnogdfnikioaaDoor
open Go.RowKit

def no10 (c : UInt8) : Bool := c != 10
theorem filter10_snoc (s : B) (k : Nat) (c : UInt8) (h : s[k]? = some c) : (s.take (k + 1)).filter no10 = (s.take k).filter no10 ++ if no10 c then [c] else [] := by
  obtain ⟨hk, hg⟩ := List.getElem?_eq_some_iff.1 h
  rw [List.take_succ_eq_append_getElem hk, hg, List.filter_append]
  cases hc : no10 c <;> simp [hc]
def NotesInv (l c : B) (i fr ln : Nat) (out : B) : Prop :=
  ∃ done, ln = done.length ∧ ln ≤ i ∧ out.length ≤ 700 * ln ∧ Noted c done out ∧ ((i ≤ l.length ∧ fr ≤ i ∧ pcs l = done ++ pcs (l.drop fr) ∧ ∀ d ∈ (l.take i).drop fr, d ≠ 10) ∨ (i = l.length + 1 ∧ pcs l = done))
theorem bits_and_u16_nat (a b : Nat) (ha : a < 65536) (hb : b < 65536) : bits .and .u16 (a : Int) (b : Int) = ((a &&& b : Nat) : Int) := by
  have hx : a &&& b < 2 ^ 16 := Nat.and_lt_two_pow _ (by omega)
  have h1 : (BitVec.ofInt 16 (a : Int)).toNat = a := by
    rw [BitVec.ofInt_natCast, BitVec.toNat_ofNat]; exact Nat.mod_eq_of_lt (by omega)
  have h2 : (BitVec.ofInt 16 (b : Int)).toNat = b := by
    rw [BitVec.ofInt_natCast, BitVec.toNat_ofNat]; exact Nat.mod_eq_of_lt (by omega)
  show IntKind.u16.wrap ((BitVec.ofInt 16 (a : Int) &&& BitVec.ofInt 16 (b : Int)).toNat : Int) = _
  rw [BitVec.toNat_and, h1, h2]
  simp [IntKind.wrap, IntKind.signed, IntKind.bits]
  omega
theorem bits_low (y : Int) (n m : Nat) (hy0 : 0 ≤ y) (hy : y ≤ 65535) (hm : m < 65536) : ∃ b : Nat, bits .and .u16 (y / 2 ^ n) (m : Int) = (b : Int) ∧ b ≤ m := by
  obtain ⟨Y, rfl⟩ : ∃ Y : Nat, y = Y := ⟨y.toNat, by omega⟩
  have e : ((Y : Int) / 2 ^ n) = ((Y / 2 ^ n : Nat) : Int) := by
    rw [Int.natCast_ediv]
    rfl
  have hlt : Y / 2 ^ n < 65536 := Nat.lt_of_le_of_lt (Nat.div_le_self _ _) (by omega)
  rw [e, bits_and_u16_nat _ _ hlt hm]
  exact ⟨_, rfl, Nat.and_le_right⟩
theorem seven_extract (b : Nat) (h : b ≤ 7) : (ByteArray.mk #[32, 32, 32, 32, 32, 32, 32]).extract 0 b = ⟨(List.replicate b (32 : UInt8)).toArray⟩ := by
  have := extract_list (List.replicate 7 32) 0 b
  rw [List.drop_zero, List.take_replicate, Nat.min_eq_left h] at this
  exact this
theorem btN {a b c : World} (h : Below a.heap.size a b) (k : Below b.heap.size b c) : Below a.heap.size a c := h.trans (k.mono h.size)
set_option maxRecDepth 100000 in
set_option maxHeartbeats 8000000 in
theorem wordsNotes_ok (w : World) (s note : B) (hnl : note.length ≤ 9223372036854775807) (x y : Int) (hx0 : 0 ≤ x) (hx : x ≤ 65535) (hy0 : 0 ≤ y) (hy : y ≤ 65535) : Calls Tryd.prog 7 #[.string ⟨s.toArray⟩, .string ⟨note.toArray⟩, .agg #[.int .u16 x, .int .u16 y]] w fun e w' => e = .returned (.bool true) ∧ Below w.heap.size w w' := by
  have hfew := few_ok
  have Hfew := Lib.hid (fun w => hfew w s)
  have Hfn := Lib.hid (fun w => hfew w note)
  clear hfew
  have hll : (s.take 300).length ≤ 300 := by simp; omega
  obtain ⟨l, hl⟩ : ∃ l, s.take 300 = l := ⟨_, rfl⟩
  rw [hl] at Hfew hll
  clear hl
  obtain ⟨m, hm⟩ : ∃ m, (note.take 300).length = m := ⟨_, rfl⟩
  have hm1 : m ≤ note.length := by rw [← hm]; simp; omega
  have hm3 : m ≤ 300 := by rw [← hm]; simp; omega
  obtain ⟨nt, hnt⟩ : ∃ nt, note.take 300 = nt := ⟨_, rfl⟩
  rw [hnt] at Hfn hm
  have hma : m ≤ nt.length := by omega
  have hmb : nt.length ≤ m := by omega
  clear hm hnt
  go_enter Tryd.func7, Tryd.ntmps7
  go_wp2_with fail
  refine (shown_ok _).mono ?_
  rintro e w1 ⟨rfl, hs1⟩
  go_wp2_with fail
  refine (Hfew.out _).mono ?_
  rintro e w' ⟨rfl, rfl⟩
  go_wp2_with fail
  go_loop [9, 10] (fun o i => ∃ (k : Nat) (out : B), k ≤ m ∧ i = .int .i64 k ∧ o = .string ⟨out.toArray⟩ ∧ Hid (out = (note.take k).filter no10) ∧ out.length ≤ k) (fun _ i => m - (intOf i).toNat)
  case atStart => exact ⟨0, [], by omega, rfl, rfl, rfl, by simp⟩
  case round =>
    obtain ⟨k, out, hk, rfl, rfl, hout, hol⟩ := hrel
    by_cases hlt : k < m
    · have hlt2 : k < note.length := by omega
      obtain ⟨c, hc⟩ : ∃ c, note[k]? = some c := ⟨_, List.getElem?_eq_getElem hlt2⟩
      have hb := byte_at note k c hc hlt2
      have hsn := Lib.hid (filter10_snoc note k c hc)
      have hcut := cut_one note k c hc
      have hap : (ByteArray.mk out.toArray) ++ ⟨#[c]⟩ = ⟨(out ++ [c]).toArray⟩ := app_bytes out [c]
      by_cases h10 : c = 10
      · have hr1 : Hid (out = (note.take (k + 1)).filter no10) := by
          show _ = _
          rw [hsn.out, hout.out, h10]
          simp [no10]
        subst h10
        clear hc
        go_wp2_with (go_at_call 15; refine (Hfn.out _).mono ?_; rintro e w' ⟨rfl, rfl⟩)
        go_round
        case rel => exact ⟨k + 1, out, by omega, by simp, rfl, hr1, by omega⟩
        case measure => simp [intOf]; omega
      · have hr1 : Hid (out ++ [c] = (note.take (k + 1)).filter no10) := by
          show _ = _
          rw [hsn.out, hout.out]
          simp [no10, h10]
        have m10 : ((c.toNat : Int) != 10) = true := by
          rw [bne_iff_ne]
          intro h
          exact h10 (UInt8.toNat_inj.1 (by show c.toNat = 10; omega))
        clear hc h10
        go_wp2_with (go_at_call 15; refine (Hfn.out _).mono ?_; rintro e w' ⟨rfl, rfl⟩)
        go_round
        case rel => exact ⟨k + 1, out ++ [c], by omega, by simp, rfl, hr1, by simp; omega⟩
        case measure => simp [intOf]; omega
    · obtain rfl : k = m := by omega
      obtain ⟨c, hcc⟩ : ∃ c, out = c := ⟨_, rfl⟩
      subst hcc
      have hc10 : Hid (∀ d ∈ out, d ≠ 10) := by
        intro d hd
        rw [hout.out, List.mem_filter] at hd
        simpa [no10] using hd.2
      have hbx : Bk w1 w.heap.size 46 #[.int .u16 x, .int .u16 y] := (hs1.block _ (by simp)).trans (Bk.new w 46 _)
      have k0 : w1.cell? ⟨w.heap.size, 0, none⟩ = some (.int .u16 x) := hbx.cell 0
      have k1 : w1.cell? ⟨w.heap.size, 1, none⟩ = some (.int .u16 y) := hbx.cell 1
      have hbw : Hid (Below w.heap.size w w1) := ((Below.refl _ _).alloc (Nat.le_refl _) _).trans (hs1.mono (by simp))
      have d23 : decide (k < nt.length) = false := by simp; omega
      have d24 : decide ((k : Int) < (nt.length : Int)) = false := by simp; omega
      clear hs1 hbx hout hlt
      go_wp2_with (go_at_call 15; refine (Hfn.out _).mono ?_; rintro e w' ⟨rfl, rfl⟩)
      go_loopw [11, 12, 13, 14] (fun o l' f i wr => ∃ (ln fr j q : Nat) (ot : B), o = .string ⟨ot.toArray⟩ ∧ l' = .int .i64 ln ∧ f = .int .i64 fr ∧ i = .int .i64 j ∧ wr = w1.drewN q ∧ NotesInv l out j fr ln ot) (fun _ _ _ i _ => l.length + 1 - (intOf i).toNat)
      case atStart => exact ⟨0, 0, 0, 0, [], rfl, rfl, rfl, rfl, rfl, [], rfl, by omega, by simp, .nil, .inl ⟨by omega, by omega, by simp, no10_nil l 0⟩⟩
      case round =>
        obtain ⟨ln, fr, j, q, ot, rfl, rfl, rfl, rfl, rfl, hinv⟩ := hrel
        by_cases hgo : ∃ d, l[j]? = some d ∧ d ≠ 10
        · obtain ⟨d, hd, hd10⟩ := hgo
          have hlt : j < l.length := (List.getElem?_eq_some_iff.1 hd).1
          have hb := byte_at l j d hd hlt
          have m10 : ((d.toNat : Int) != 10) = true := by
            rw [bne_iff_ne]
            intro h
            exact hd10 (UInt8.toNat_inj.1 (by show d.toNat = 10; omega))
          have hinv' : NotesInv l out (j + 1) fr ln ot := by
            obtain ⟨done, h1, h2, h3, h4, h5⟩ := hinv
            rcases h5 with ⟨a1, a2, a3, a4⟩ | ⟨a1, -⟩
            · exact ⟨done, h1, by omega, h3, h4, .inl ⟨by omega, by omega, a3, no10_snoc l fr j d hd a2 hd10 a4⟩⟩
            · omega
          clear hinv hd hd10
          go_wp2
          go_roundw
          case rel => exact ⟨ln, fr, j + 1, q, ot, rfl, rfl, rfl, by simp, rfl, hinv'⟩
          case measure => simp [intOf]; omega
        · by_cases hj : j ≤ l.length
          · obtain ⟨done, hln, hlj, hol2, hnoted, hin⟩ := hinv
            have hin2 : fr ≤ j ∧ pcs l = done ++ pcs (l.drop fr) ∧ ∀ d ∈ (l.take j).drop fr, d ≠ 10 := by
              rcases hin with ⟨_, h⟩ | ⟨h, -⟩
              · exact h
              · omega
            clear hin
            obtain ⟨hfk, hpc, hno⟩ := hin2
            have hway : (j = l.length ∧ pcs l = done ++ [(l.take j).drop fr]) ∨ (l[j]? = some 10 ∧ pcs l = (done ++ [(l.take j).drop fr]) ++ pcs (l.drop (j + 1))) := by
              by_cases hlt : j < l.length
              · right
                have h1 : l[j]? = some 10 := by
                  rw [List.getElem?_eq_getElem hlt]
                  congr 1
                  by_cases h : l[j] = 10
                  · exact h
                  · exact absurd ⟨_, List.getElem?_eq_getElem hlt, h⟩ hgo
                refine ⟨h1, ?_⟩
                rw [hpc, pcs_cut l fr j h1 hfk hno]
                simp
              · left
                obtain rfl : j = l.length := by omega
                refine ⟨rfl, ?_⟩
                rw [hpc, pcs_last l fr hno]
            clear hgo hpc hno
            have hex : (ByteArray.mk l.toArray).extract fr j = ⟨((l.take j).drop fr).toArray⟩ := extract_list l fr j
            have hlp : ((l.take j).drop fr).length ≤ 300 := by simp; omega
            generalize (l.take j).drop fr = p at *
            have hdone : Hid (∀ ot2 : B, ot2.length ≤ ot.length + 700 → Noted out (done ++ [p]) ot2 → NotesInv l out (j + 1) (j + 1) (ln + 1) ot2) := by
              intro ot2 h1 h2
              refine ⟨done ++ [p], by simp; omega, by omega, by omega, h2, ?_⟩
              rcases hway with ⟨h, hp⟩ | ⟨h, hp⟩
              · exact .inr ⟨by omega, hp⟩
              · have := (List.getElem?_eq_some_iff.1 h).1
                exact .inl ⟨by omega, by omega, hp, no10_nil l (j + 1)⟩
            have hway2 : j = l.length ∨ l[j]? = some 10 := hway.imp And.left And.left
            have hotl : ot.length ≤ 300000 := by omega
            have hlnb : ln ≤ 300 := by omega
            have zl : (ln : Int) ≤ 300 := by omega
            have zl0 : (0 : Int) ≤ (ln : Int) := by omega
            have Hnoted := Lib.hid hnoted
            clear hway hnoted hol2 hln
            obtain ⟨b1, hv1, hb1⟩ := bits_low y ((ln : Int) % 16).toNat 3 hy0 hy (by omega)
            obtain ⟨b0, hv0, hb0⟩ := bits_low x (ln % 16) 1 hx0 hx (by omega)
            have hv1 : bits .and .u16 (y / 2 ^ ((ln : Int) % 16).toNat) 3 = (b1 : Int) := hv1
            have hv0 : bits .and .u16 (x / 2 ^ (ln % 16)) 1 = (b0 : Int) := hv0
            have hb01 : b0 = 0 ∨ b0 = 1 := by omega
            have hble := seven_extract b1 (by omega)
            have hblm : Hid (∀ b ∈ List.replicate b1 (32 : UInt8), b = 32) := fun b hb => (List.mem_replicate.1 hb).2
            have hbll : (List.replicate b1 (32 : UInt8)).length ≤ 3 := by simpa using hb1
            generalize List.replicate b1 (32 : UInt8) = bl at *
            have zb : (b1 : Int) ≤ 7 := by omega
            have zb7 : b1 ≤ 7 := by omega
            have zb8 : ¬ (7 : Int) < (b1 : Int) := by omega
            have zb0 : (0 : Int) ≤ (b1 : Int) := by omega
            have hsl : ∀ w, (Instr.slice 9 (.string ⟨#[32, 32, 32, 32, 32, 32, 32]⟩) none (some (.int .u16 (b1 : Int))) none).run Tryd.prog w = .ok (.string ⟨bl.toArray⟩) w := fun w => by
              rw [run_slice_string_h w 9 ⟨#[32, 32, 32, 32, 32, 32, 32]⟩ Tryd.underlying9 .u16 (b1 : Int) zb0 zb, Int.toNat_natCast, hble]
            obtain ⟨o1, ho1⟩ : ∃ o1, ot ++ bl = o1 := ⟨_, rfl⟩
            obtain ⟨o2, ho2⟩ : ∃ o2, o1 ++ p = o2 := ⟨_, rfl⟩
            obtain ⟨o3, ho3⟩ : ∃ o3, o2 ++ [32, 9, 35] = o3 := ⟨_, rfl⟩
            obtain ⟨o4, ho4⟩ : ∃ o4, o3 ++ out = o4 := ⟨_, rfl⟩
            obtain ⟨o5, ho5⟩ : ∃ o5, o4 ++ [10, 10, 32, 32, 35] = o5 := ⟨_, rfl⟩
            obtain ⟨o6, ho6⟩ : ∃ o6, o5 ++ [10] = o6 := ⟨_, rfl⟩
            obtain ⟨o7, ho7⟩ : ∃ o7, o2 ++ [10] = o7 := ⟨_, rfl⟩
            have l1 : o1.length ≤ ot.length + 3 := by rw [← ho1, List.length_append]; omega
            have l2 : o2.length ≤ ot.length + 303 := by rw [← ho2, List.length_append]; omega
            have l3 : o3.length ≤ ot.length + 306 := by rw [← ho3, List.length_append]; simp; omega
            have l4 : o4.length ≤ ot.length + 606 := by rw [← ho4, List.length_append]; omega
            have l5 : o5.length ≤ ot.length + 611 := by rw [← ho5, List.length_append]; simp; omega
            have l6 : o6.length ≤ ot.length + 612 := by rw [← ho6, List.length_append]; simp; omega
            have l7 : o7.length ≤ ot.length + 304 := by rw [← ho7, List.length_append]; simp; omega
            have a1 : ∀ w, (Op.stringOp .add ⟨ot.toArray⟩ ⟨bl.toArray⟩).run Tryd.prog w = .ok (.string ⟨o1.toArray⟩) w := fun w => by rw [run_string_add_lists w ot bl (by omega) (by omega), ho1]
            have a2 : ∀ w, (Op.stringOp .add ⟨o1.toArray⟩ ⟨p.toArray⟩).run Tryd.prog w = .ok (.string ⟨o2.toArray⟩) w := fun w => by rw [run_string_add_lists w o1 p (by omega) (by omega), ho2]
            have a3 : (ByteArray.mk o2.toArray) ++ ⟨#[32, 9, 35]⟩ = ⟨o3.toArray⟩ := by rw [← ho3]; exact app_bytes _ _
            have a4 : (ByteArray.mk o3.toArray) ++ ⟨out.toArray⟩ = ⟨o4.toArray⟩ := by rw [← ho4]; exact app_bytes _ _
            have a5 : (ByteArray.mk o4.toArray) ++ ⟨#[10, 10, 32, 32, 35]⟩ = ⟨o5.toArray⟩ := by rw [← ho5]; exact app_bytes _ _
            have a6 : (ByteArray.mk o5.toArray) ++ ⟨#[10]⟩ = ⟨o6.toArray⟩ := by rw [← ho6]; exact app_bytes _ _
            have a7 : (ByteArray.mk o2.toArray) ++ ⟨#[10]⟩ = ⟨o7.toArray⟩ := by rw [← ho7]; exact app_bytes _ _
            have hp7 : Hid (NotesInv l out (j + 1) (j + 1) (ln + 1) o7) := by
              refine hdone.out o7 (by omega) ?_
              rw [← ho7, ← ho2, ← ho1]
              exact .plain bl p Hnoted.out hblm.out
            have hp6 : Hid (NotesInv l out (j + 1) (j + 1) (ln + 1) o6) := by
              refine hdone.out o6 (by omega) ?_
              rw [← ho6, ← ho5, ← ho4, ← ho3, ← ho2, ← ho1]
              exact .note bl p Hnoted.out hblm.out
            clear ho1 ho2 ho3 ho4 ho5 ho6 ho7
            rcases hway2 with hkl | hc
            · have hge : l.length ≤ j := by omega
              clear hkl
              go_wp2_with fail
              go_quiet (fail)
              rcases hb01 with rfl | rfl
              · have hv0' : bits .and .u16 (x / 2 ^ (ln % 16)) 1 = 0 := hv0
                clear hv0 a3 a4 a5 a6
                go_wp2_with fail
                go_roundw
                case rel => exact ⟨ln + 1, j + 1, j + 1, _, o7, rfl, by simp, by simp, by simp, rfl, hp7.out⟩
                case measure => simp [intOf]; omega
              · have hv0' : bits .and .u16 (x / 2 ^ (ln % 16)) 1 = 1 := hv0
                clear hv0 a7
                go_wp2_with fail
                go_roundw
                case rel => exact ⟨ln + 1, j + 1, j + 1, _, o6, rfl, by simp, by simp, by simp, rfl, hp6.out⟩
                case measure => simp [intOf]; omega
            · have hlt : j < l.length := (List.getElem?_eq_some_iff.1 hc).1
              have hb := byte_at l j _ hc hlt
              clear hc
              go_wp2_with fail
              go_quiet (fail)
              rcases hb01 with rfl | rfl
              · have hv0' : bits .and .u16 (x / 2 ^ (ln % 16)) 1 = 0 := hv0
                clear hv0 a3 a4 a5 a6
                go_wp2_with fail
                go_roundw
                case rel => exact ⟨ln + 1, j + 1, j + 1, _, o7, rfl, by simp, by simp, by simp, rfl, hp7.out⟩
                case measure => simp [intOf]; omega
              · have hv0' : bits .and .u16 (x / 2 ^ (ln % 16)) 1 = 1 := hv0
                clear hv0 a7
                go_wp2_with fail
                go_roundw
                case rel => exact ⟨ln + 1, j + 1, j + 1, _, o6, rfl, by simp, by simp, by simp, rfl, hp6.out⟩
                case measure => simp [intOf]; omega
          · obtain ⟨done, hln, hlj, hol2, hnoted, hin⟩ := hinv
            have hpc : pcs l = done := by
              rcases hin with ⟨h, _⟩ | ⟨-, h⟩
              · omega
              · exact h
            have hjl : l.length < j := by omega
            have htx : Hid (txts (linesL l) = txts (linesL ot)) := noted_txts l out ot hc10.out (by rw [hpc]; exact hnoted)
            obtain ⟨hb1, hb2⟩ := linesL_bound l
            have HB := Lib.hid hb2
            have hdl : done.length ≤ 301 := by
              rw [← hpc]
              have := pcs_length l
              omega
            have hotl : ot.length ≤ 1000000 := by omega
            clear hgo hin hb2 hnoted hpc
            go_wp2_with (first
              | (go_at_call_of 14 (Value.string ⟨l.toArray⟩); refine (lines_ok _ l (by omega)).mono ?_; rintro e w2 ⟨v2, rfl, hret2⟩; obtain ⟨A2, c2, rfl, hat2, hs2⟩ := RowsAt.of hret2; clear hret2)
              | (go_at_call_of 14 (Value.string ⟨ot.toArray⟩); refine (lines_ok _ ot hotl).mono ?_; rintro e w3 ⟨v3, rfl, hret3⟩; obtain ⟨A3, c3, rfl, hat3, hs3⟩ := RowsAt.of hret3; clear hret3)
              | (go_at_call 20; refine (texts_ok _ (linesL l) (linesL ot) A2 A3 c2 c3 (hat2.below hs3) hat3 htx.out (by omega) (fun i r hi => Nat.le_trans (HB.out i r hi) (by omega))).mono ?_; rintro e w4 ⟨rfl, hs4⟩))
            go_ret
            exact ⟨rfl, btN (btN (btN (below_drewN hbw.out q) hs2) hs3) hs4⟩
theorem wordsNotes_row (w : World) (s note : B) (hnl : note.length ≤ maxLen) (x y : Int) (h : (0 ≤ x ∧ x ≤ 65535) ∧ 0 ≤ y ∧ y ≤ 65535) : Calls Tryd.prog 7 #[.string ⟨s.toArray⟩, .string ⟨note.toArray⟩, .agg #[.int .u16 x, .int .u16 y]] w fun e w' => e = .returned (.bool true) ∧ Below w.heap.size w w' :=
  wordsNotes_ok w s note (by unfold maxLen at hnl; omega) x y h.1.1 h.1.2 h.2.1 h.2.2
end Go.Proofs.YtccnogdfnikioaaDoor
