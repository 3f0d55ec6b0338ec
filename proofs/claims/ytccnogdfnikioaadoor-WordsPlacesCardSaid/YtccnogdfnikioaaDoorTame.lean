/- The contracts of fleuronlaw05.tame, name, texts (at rows of the same texts). -/
import Derived.Test.YtccnogdfnikioaaDoorSame
import Derived.Test.YtccnogdfnikioaaDoorRefName
namespace Go.Proofs.YtccnogdfnikioaaDoor
open Go.RowKit

def wordC (c : UInt8) : Bool := c != 32 && c != 9 && c != 10 && c != 35
def tameR (s : B) : B := (s.filter wordC).take 12
def tameL (s : B) : B := if tameR s = [] then [120] else tameR s
def nameL (s : B) : B := if tameL s = [91] ∨ tameL s = [93] then [120] else tameL s
theorem tameL_ne (s : B) : tameL s ≠ [] := by unfold tameL; split <;> simp_all
theorem tameL_word (s : B) : ∀ c ∈ tameL s, wordC c = true := by
  intro c hc
  unfold tameL at hc
  split at hc
  · simp at hc
    subst hc
    decide
  · have := List.mem_of_mem_take hc
    exact (List.mem_filter.1 this).2
theorem tameL_len (s : B) : (tameL s).length ≤ 12 := by
  unfold tameL
  split
  · simp
  · unfold tameR
    rw [List.length_take]
    omega
theorem nameL_ne (s : B) : nameL s ≠ [] ∧ nameL s ≠ [91] ∧ nameL s ≠ [93] := by
  unfold nameL
  split
  · simp
  · rename_i h
    exact ⟨tameL_ne s, fun e => h (.inl e), fun e => h (.inr e)⟩
theorem wordC_iff (c : UInt8) : wordC c = true ↔ c.toNat ≠ 32 ∧ c.toNat ≠ 9 ∧ c.toNat ≠ 10 ∧ c.toNat ≠ 35 := by
  simp only [wordC, Bool.and_eq_true, bne_iff_ne, ne_eq, ← UInt8.toNat_inj]
  simp [and_assoc]
theorem filter_snoc (s : B) (k : Nat) (c : UInt8) (h : s[k]? = some c) : (s.take (k + 1)).filter wordC = (s.take k).filter wordC ++ if wordC c then [c] else [] := by
  obtain ⟨hk, hg⟩ := List.getElem?_eq_some_iff.1 h
  rw [List.take_succ_eq_append_getElem hk, hg, List.filter_append]
  cases hc : wordC c <;> simp [hc]
theorem tameR_stop (s : B) (k : Nat) (h : ((s.take k).filter wordC).length = 12) : tameR s = (s.take k).filter wordC := by
  have e : s.filter wordC = (s.take k).filter wordC ++ (s.drop k).filter wordC := by rw [← List.filter_append, List.take_append_drop]
  rw [tameR, e, List.take_append_of_le_length (by omega), List.take_of_length_le (by omega)]
theorem tameR_end (s : B) (h : (s.filter wordC).length ≤ 12) : tameR s = s.filter wordC := by rw [tameR, List.take_of_length_le h]
theorem app_bytes (a b : B) : (ByteArray.mk a.toArray) ++ ⟨b.toArray⟩ = ⟨(a ++ b).toArray⟩ := by
  apply ByteArray.ext
  rw [ByteArray.data_append]
  apply Array.ext'
  simp
theorem cut_one (s : B) (k : Nat) (c : UInt8) (h : s[k]? = some c) : (ByteArray.mk s.toArray).extract k (k + 1) = ⟨#[c]⟩ := by
  obtain ⟨hk, hg⟩ := List.getElem?_eq_some_iff.1 h
  rw [extract_list, List.take_succ_eq_append_getElem hk, hg, List.drop_append_of_le_length (by rw [List.length_take]; omega), List.drop_eq_nil_of_le (by rw [List.length_take]; omega)]
  rfl
theorem tame_fin (s r : B) (h : tameR s = r) : (r = [] → tameL s = [120]) ∧ (r ≠ [] → tameL s = r) := by
  refine ⟨fun e => ?_, fun e => ?_⟩
  · rw [tameL, if_pos (h.trans e)]
  · rw [tameL, if_neg (by rw [h]; exact e), h]
set_option maxRecDepth 100000 in
set_option maxHeartbeats 4000000 in
theorem tame_ok (w : World) (s : B) (hs : s.length ≤ 9223372036854775807) : Calls Tryd.prog 19 #[.string ⟨s.toArray⟩] w fun e w' => e = .returned (.string ⟨(tameL s).toArray⟩) ∧ w = w' := by
  go_enter Tryd.func19, Tryd.ntmps19
  go_wp2
  go_loop [3, 4] (fun o i => ∃ (k : Nat) (out : B), k ≤ s.length ∧ i = .int .i64 k ∧ o = .string ⟨out.toArray⟩ ∧ Hid (out = (s.take k).filter wordC) ∧ out.length ≤ 12) (fun _ i => s.length - (intOf i).toNat)
  case atStart => exact ⟨0, [], by omega, rfl, rfl, rfl, by simp⟩
  case round =>
    obtain ⟨k, out, hk, rfl, rfl, hout, hol⟩ := hrel
    by_cases hlt : k < s.length ∧ out.length < 12
    · obtain ⟨hlt, hl12⟩ := hlt
      obtain ⟨c, hc⟩ : ∃ c, s[k]? = some c := ⟨_, List.getElem?_eq_getElem hlt⟩
      have hb := byte_at s k c hc hlt
      have hsn := Lib.hid (filter_snoc s k c hc)
      have hcut := cut_one s k c hc
      have hap : (ByteArray.mk out.toArray) ++ ⟨#[c]⟩ = ⟨(out ++ [c]).toArray⟩ := app_bytes out [c]
      have hw := wordC_iff c
      cases hwc : wordC c with
      | true =>
        obtain ⟨n1, n2, n3, n4⟩ := hw.1 hwc
        have m1 : ((c.toNat : Int) != 32) = true := by rw [bne_iff_ne]; omega
        have m2 : ((c.toNat : Int) != 9) = true := by rw [bne_iff_ne]; omega
        have m3 : ((c.toNat : Int) != 10) = true := by rw [bne_iff_ne]; omega
        have m4 : ((c.toNat : Int) != 35) = true := by rw [bne_iff_ne]; omega
        have hr1 : Hid (out ++ [c] = (s.take (k + 1)).filter wordC) := by
          show _ = _
          rw [hsn.out, hwc, hout.out]
          rfl
        clear hw hwc hc n1 n2 n3 n4
        go_wp2
        go_round
        case rel => exact ⟨k + 1, out ++ [c], by omega, by simp, rfl, hr1, by simp; omega⟩
        case measure => simp [intOf]; omega
      | false =>
        have hr1 : Hid (out = (s.take (k + 1)).filter wordC) := by
          show _ = _
          rw [hsn.out, hwc, hout.out]
          simp
        have hq : c = 32 ∨ c = 9 ∨ c = 10 ∨ c = 35 := by
          have h2 : ¬ (c.toNat ≠ 32 ∧ c.toNat ≠ 9 ∧ c.toNat ≠ 10 ∧ c.toNat ≠ 35) := fun h => by rw [hw.2 h] at hwc; cases hwc
          have h3 : c.toNat = 32 ∨ c.toNat = 9 ∨ c.toNat = 10 ∨ c.toNat = 35 := by omega
          rcases h3 with h | h | h | h
          · exact .inl (UInt8.toNat_inj.1 h)
          · exact .inr (.inl (UInt8.toNat_inj.1 h))
          · exact .inr (.inr (.inl (UInt8.toNat_inj.1 h)))
          · exact .inr (.inr (.inr (UInt8.toNat_inj.1 h)))
        clear hw hwc hc hcut hap hsn
        rcases hq with rfl | rfl | rfl | rfl
        all_goals
          go_wp2
          go_round
          case rel => exact ⟨k + 1, out, by omega, by simp, rfl, hr1, by omega⟩
          case measure => simp [intOf]; omega
    · have hR : Hid (tameR s = out) := by
        show _ = _
        by_cases h12 : out.length = 12
        · rw [hout.out]
          exact tameR_stop s k (by rw [← hout.out]; exact h12)
        · have hkl : k = s.length := by omega
          rw [hout.out, hkl, List.take_length]
          refine tameR_end s ?_
          have := hout.out
          rw [hkl, List.take_length] at this
          rw [← this]
          exact hol
      have hfin := Lib.hid (tame_fin s out hR.out)
      have hway : ¬ k < s.length ∨ (k < s.length ∧ ¬ out.length < 12) := by omega
      clear hlt hR
      by_cases he : out = []
      · subst he
        have hq : ¬ k < s.length := by simp at hway; omega
        clear hway
        go_wp2
        go_ret
        exact ⟨by rw [hfin.out.1 (by simp)]; rfl, rfl⟩
      · have e1 : out.isEmpty = false := by simpa using he
        have e2 : (out == []) = false := by simpa using he
        have hp := Lib.hid (hfin.out.2 he)
        clear hfin
        rcases hway with hway | ⟨hway, hway2⟩
        · go_wp2
          go_ret
          exact ⟨by rw [hp.out]; rfl, rfl⟩
        · go_wp2
          go_ret
          exact ⟨by rw [hp.out]; rfl, rfl⟩
set_option maxRecDepth 100000 in
set_option maxHeartbeats 2000000 in
theorem nameW_ok (w : World) (s : B) (hs : s.length ≤ 9223372036854775807) : Calls Tryd.prog 21 #[.string ⟨s.toArray⟩] w fun e w' => e = .returned (.string ⟨(nameL s).toArray⟩) ∧ w = w' := by
  have ht := Lib.hid (tame_ok w s hs)
  have hn : Hid ((tameL s = [91] ∨ tameL s = [93] → nameL s = [120]) ∧ (tameL s ≠ [91] → tameL s ≠ [93] → nameL s = tameL s)) := by
    refine ⟨fun h => ?_, fun h1 h2 => ?_⟩
    · rw [nameL, if_pos h]
    · rw [nameL, if_neg (by rintro (h | h); exact h1 h; exact h2 h)]
  generalize tameL s = T at *
  go_enter Tryd.func21, Tryd.ntmps21
  go_wp2_with fail
  refine ht.out.mono ?_
  rintro e w' ⟨rfl, rfl⟩
  by_cases h1 : T = [91]
  · have hq := Lib.hid (hn.out.1 (.inl h1))
    subst h1
    go_wp2_with fail
    go_ret
    exact ⟨by rw [hq.out]; rfl, rfl⟩
  · have e1 : (T == [91]) = false := by simpa using h1
    by_cases h2 : T = [93]
    · have hq := Lib.hid (hn.out.1 (.inr h2))
      subst h2
      go_wp2_with fail
      go_ret
      exact ⟨by rw [hq.out]; rfl, rfl⟩
    · have e2 : (T == [93]) = false := by simpa using h2
      have hq := Lib.hid (hn.out.2 h1 h2)
      go_wp2_with fail
      go_ret
      exact ⟨by rw [hq.out]; rfl, rfl⟩
def txts (rows : List (List P3)) : List (List B) := rows.map fun r => r.map fun p => p.2.2
theorem txts_len {ra rb : List (List P3)} (h : txts ra = txts rb) : ra.length = rb.length := by
  have := congrArg List.length h
  simpa [txts] using this
theorem txts_row {ra rb : List (List P3)} (h : txts ra = txts rb) {k : Nat} {r : List P3} (hr : ra[k]? = some r) : ∃ r', rb[k]? = some r' ∧ r'.length = r.length ∧ ∀ (j : Nat) (p : P3), r[j]? = some p → ∃ p' : P3, r'[j]? = some p' ∧ p'.2.2 = p.2.2 := by
  have h1 : (txts ra)[k]? = some (r.map fun p => p.2.2) := by simp [txts, hr]
  rw [h] at h1
  simp only [txts, List.getElem?_map, Option.map_eq_some_iff] at h1
  obtain ⟨r', e1, e2⟩ := h1
  refine ⟨r', e1, ?_, fun j p hp => ?_⟩
  · have := congrArg List.length e2
    simpa using this
  · have h2 : (r.map fun p => p.2.2)[j]? = some p.2.2 := by simp [hp]
    rw [← e2] at h2
    simp only [List.getElem?_map, Option.map_eq_some_iff] at h2
    obtain ⟨p', e3, e4⟩ := h2
    exact ⟨p', e3, e4⟩
set_option maxRecDepth 100000 in
set_option maxHeartbeats 4000000 in
theorem texts_ok (w : World) (rows rows' : List (List P3)) (A A' : Option Addr) (c c' : Nat) (hA : RowsAt 35 w A rows) (hA' : RowsAt 35 w A' rows') (heq : txts rows = txts rows') (hn : rows.length ≤ 1000000) (hm : ∀ (i : Nat) (r : List P3), rows[i]? = some r → r.length ≤ 1000000) :
    Calls Tryd.prog 20 #[.slice A rows.length c, .slice A' rows'.length c'] w fun e w' => e = .returned (.bool true) ∧ Below w.heap.size w w' := by
  rw [← txts_len heq]
  have hne : ((rows.length : Int) != (rows.length : Int)) = false := by simp
  have hll := Lib.hid (txts_len heq)
  have HA := Lib.hid hA
  have HA' := Lib.hid hA'
  have HM := Lib.hid hm
  have HE := Lib.hid heq
  clear hA hA' hm heq
  go_enter Tryd.func20, Tryd.ntmps20
  go_wp2
  go_loopw [5] (fun i wr => ∃ k q : Nat, k ≤ rows.length ∧ i = .int .i64 k ∧ wr = w.drewN q) (fun i _ => rows.length - (intOf i).toNat)
  case atStart => exact ⟨0, 0, by omega, rfl, rfl⟩
  case round =>
    obtain ⟨k, q, hk, rfl, rfl⟩ := hrel
    by_cases hlt : k < rows.length
    · obtain ⟨r, hr⟩ : ∃ r, rows[k]? = some r := ⟨_, List.getElem?_eq_getElem hlt⟩
      obtain ⟨r', hr', hrl', hpts⟩ := txts_row HE.out hr
      obtain ⟨b, o, rfl, hb, hc⟩ := HA.out (by omega)
      obtain ⟨b', o', rfl, hb', hc'⟩ := HA'.out (by have := hll.out; omega)
      obtain ⟨A2, c2, p1, hrd⟩ := hc k r hr
      obtain ⟨A2', c2', p1', hrd'⟩ := hc' k r' hr'
      have hrl := HM.out k r hr
      rw [hrl'] at p1' hrd'
      have hne2 : ((r.length : Int) != (r.length : Int)) = false := by simp
      have zk : (k : Int) < (rows.length : Int) := by omega
      have zk0 : (0 : Int) ≤ (k : Int) := by omega
      have HP := Lib.hid hpts
      clear hc hc' hr hr' hpts hrl'
      go_wp2_with fail
      go_quiet (fail)
      go_wp2
      go_loopw [6] (fun i wr => ∃ j q : Nat, j ≤ r.length ∧ i = .int .i64 j ∧ wr = w.drewN q) (fun i _ => r.length - (intOf i).toNat)
      case atStart => exact ⟨0, _, by omega, rfl, World.drewN_drewN ..⟩
      case round =>
        obtain ⟨j, q2, hj, rfl, rfl⟩ := hrel
        by_cases hjl : j < r.length
        · obtain ⟨p, hp⟩ : ∃ p, r[j]? = some p := ⟨_, List.getElem?_eq_getElem hjl⟩
          obtain ⟨p', hp', hpe⟩ := HP.out j p hp
          obtain ⟨b2, o2, rfl, hb2, x1, x2, x3⟩ := hrd.at3 hp
          obtain ⟨b3, o3, rfl, hb3, y1, y2, y3⟩ := hrd'.at3 hp'
          rw [hpe] at y3
          obtain ⟨px, py, pz⟩ := p
          dsimp only at x1 x2 x3 y3
          have n3 : (pz != pz) = false := by simp
          have n4 : (pz == pz) = true := by simp
          have zj : (j : Int) < (r.length : Int) := by omega
          have zj0 : (0 : Int) ≤ (j : Int) := by omega
          clear hp hrd hrd' hp' hpe y1 y2
          go_wp2_with fail
          go_quiet (fail)
          go_wp2
          go_roundw
          case rel => exact ⟨j + 1, _, by omega, by go_num, rfl⟩
          case measure => simp [intOf]; omega
        · go_wp2
          go_roundw
          case rel => exact ⟨k + 1, _, by omega, by go_num, rfl⟩
          case measure => simp [intOf]; omega
    · go_wp2
      go_ret
      exact ⟨rfl, below_drewN (Below.refl _ _) q⟩
end Go.Proofs.YtccnogdfnikioaaDoor
