/- fleuronlaw05.WordsBack returns true. -/
import Derived.Test.YtccnogdfnikioaaDoorShown
import Derived.Test.YtccnogdfnikioaaDoorOpen
import Derived.Test.YtccnogdfnikioaaDoorSets
import Derived.Test.YtccnogdfnikioaaDoorAll
import Derived.Test.YtccnogdfnikioaaDoorPureBack
namespace Go.Proofs.YtccnogdfnikioaaDoor
open Go.RowKit

theorem eight_extract (b : Nat) (h : b ≤ 8) : (ByteArray.mk #[32, 32, 32, 32, 32, 32, 32, 32]).extract 0 b = ⟨(List.replicate b (32 : UInt8)).toArray⟩ := by
  have := extract_list (List.replicate 8 32) 0 b
  rw [List.drop_zero, List.take_replicate, Nat.min_eq_left h] at this
  exact this
theorem bits_one (z : UInt8) : bits .and .u8 (z.toNat : Int) 1 = ((z.toNat % 2 : Nat) : Int) := by
  have ha := z.toNat_lt
  have h1 : (BitVec.ofInt 8 (z.toNat : Int)).toNat = z.toNat := by
    rw [BitVec.ofInt_natCast, BitVec.toNat_ofNat]; exact Nat.mod_eq_of_lt (by omega)
  have h2 : (BitVec.ofInt 8 (1 : Int)).toNat = 1 := rfl
  show IntKind.u8.wrap ((BitVec.ofInt 8 (z.toNat : Int) &&& BitVec.ofInt 8 (1 : Int)).toNat : Int) = _
  rw [BitVec.toNat_and, h1, h2, Nat.and_one_is_mod]
  simp [IntKind.wrap, IntKind.signed, IntKind.bits]
  omega
theorem neq35 (w : World) (x y : Int) (z : B) : (binOp .neq 35 (.agg #[.int .i64 x, .int .i64 y, .string ⟨z.toArray⟩]) (.agg #[.int .i64 x, .int .i64 y, .string ⟨z.toArray⟩])).run Tryd.prog w = .ok (.bool false) w := by
  go_simp
theorem rowsAt_own {W : World} {base n c : Nat} {A : Option Addr} {hs : List Value} {rows : List (List P3)} (h : W.ownsRow base 32 1 (.slice A n c) n hs) (hr : RowsIn 35 W hs rows) (hn : n = rows.length) : RowsAt 35 W A rows := by
  have hret : RetRows 35 32 W W rows (.slice A n c) := ⟨A, c, hs, by rw [hn], by rw [← hn]; exact own_rdT h, hr, Below.refl _ _⟩
  obtain ⟨A', c', e, h1, -⟩ := RowsAt.of hret
  simp only [Value.slice.injEq] at e
  obtain ⟨rfl, -, -⟩ := e
  exact h1
theorem btB {a b c : World} (h : Below a.heap.size a b) (k : Below b.heap.size b c) : Below a.heap.size a c := h.trans (k.mono h.size)
theorem one_nil : one [] = [] := by decide
def BackInv (w1 : World) (k : Nat) (s : B) (v7 v8 : Value) (ln fr : Nat) (wr : World) : Prop :=
  ∃ done cur hs Wo, Writ s done cur fr ∧ ln = done.length + 1 ∧ done.length ≤ k ∧ (one cur).length ≤ k ∧ hs.length ≤ k ∧ s.length ≤ 21 * k ∧ Wo.ownsRow w1.heap.size 32 1 v7 hs.length hs ∧ RowsIn 35 Wo hs (linesFrom 1 done) ∧ Below w1.heap.size w1 Wo ∧
    Below Wo.heap.size Wo wr ∧ wr.ownsRow Wo.heap.size 35 3 v8 (one cur).length (c3s (num ln (one cur)))
set_option maxRecDepth 100000 in
set_option maxHeartbeats 8000000 in
theorem wordsBack_ok (w : World) (A : Option Addr) (n c : Nat) (ss : List (List UInt8)) (hr : Rd w w.heap.size A n 1 (cSs ss) ∧ ∀ s ∈ ss, s.length ≤ maxLen) (_hc : n ≤ c) (hm : c ≤ maxLen)
    (A' : Option Addr) (m d : Nat) (zs : List UInt8) (hr' : Rd w w.heap.size A' m 1 (cYs zs)) (_hd : m ≤ d) (hm' : d ≤ maxLen) :
    Calls Tryd.prog 5 #[.slice A n c, .slice A' m d] w fun e w' => e = .returned (.bool true) ∧ Below w.heap.size w w' := by
  obtain ⟨i0, hi0, hz0, hz1, hz2⟩ := info_parts infoS35
  obtain ⟨j0, hj0, hy0, hy1, hy2⟩ := info_parts infoS32
  obtain ⟨hr, hws⟩ := hr
  have hn : n ≤ 9223372036854775807 := by unfold maxLen at hm; omega
  have hmm : m ≤ 9223372036854775807 := by unfold maxLen at hm'; omega
  clear hm hm'
  go_enter Tryd.func5, Tryd.ntmps5
  go_wp2_with fail
  refine (shown_ok _).mono ?_
  rintro e w1 ⟨rfl, hs1⟩
  have hP : (w1.alloc (.cells #[] 32)).ownsRow w1.heap.size 32 1 (.slice (some ⟨w1.heap.size, 0, none⟩) 0 0) 0 [] := World.ownsRow_made w1 #[] 0 (Nat.le_refl _) (by simp [maxLen]) rfl
  have hQ : ((w1.alloc (.cells #[] 32)).alloc (.cells #[] 35)).ownsRow (w1.alloc (.cells #[] 32)).heap.size 35 3 (.slice (some ⟨w1.heap.size + 1, 0, none⟩) 0 0) 0 [] := by
    have := World.ownsRow_made (w1.alloc (.cells #[] 32)) (e := 35) (size := 3) (base := (w1.alloc (.cells #[] 32)).heap.size) #[] 0 (Nat.le_refl _) (by simp [maxLen]) rfl
    simp only [World.size_alloc] at this ⊢
    exact this
  have hinv0 : Hid (BackInv w1 0 [] (.slice (some ⟨w1.heap.size, 0, none⟩) 0 0) (.slice (some ⟨w1.heap.size + 1, 0, none⟩) 0 0) 1 0 ((w1.alloc (.cells #[] 32)).alloc (.cells #[] 35))) :=
    ⟨[], [], [], _, writ_nil, rfl, by simp, by decide, by simp, by simp, hP, RowsIn.nil _ _, (Below.refl _ _).alloc (Nat.le_refl _) _, (Below.refl _ _).alloc (Nat.le_refl _) _, hQ⟩
  clear hP hQ
  go_wp2_with fail
  go_loopw [6, 7, 8, 9, 10, 11] (fun sv v7 v8 lv fv i wr => ∃ (k ln fr : Nat) (s : B), k ≤ n ∧ k ≤ 30 ∧ sv = .string ⟨s.toArray⟩ ∧ lv = .int .i64 ln ∧ fv = .int .i64 fr ∧ i = .int .i64 k ∧ BackInv w1 k s v7 v8 ln fr wr) (fun _ _ _ _ _ i _ => 30 - (intOf i).toNat)
  case atStart => exact ⟨0, 1, 0, [], by omega, by omega, rfl, rfl, rfl, rfl, hinv0.out⟩
  case round =>
    obtain ⟨k, ln, fr, s, hk, hk30, rfl, rfl, rfl, rfl, done, cur, hs, Wo, hwr, hln, hdk, hok, hhk, hsl, how, hrows, hbo, hbr, hrow⟩ := hrel
    have hs1s := hs1.size
    have hbos := hbo.size
    have hbrs := hbr.size
    obtain ⟨A1, c1, rfl, -⟩ := Rd.of_own how
    obtain ⟨A2, c2, rfl, -⟩ := Rd.of_own hrow
    have hfs : fr ≤ s.length := by have := hwr.2.1; omega
    have hlnk : ln ≤ 31 := by omega
    by_cases hlt : k < n ∧ k < 30
    · obtain ⟨hlt, hl30⟩ := hlt
      obtain ⟨b, o, t, rfl, hbB, hp, q1⟩ := hr.atS hlt
      have p1 : wr.cell? ⟨b, o + k, none⟩ = some (.string ⟨t.toArray⟩) := (((hs1.trans (hbo.mono hs1s)).trans (hbr.mono (by omega))).cell (p := ⟨b, o + k, none⟩) (by simp; omega)).trans q1
      have htl : t.length ≤ 9223372036854775807 := by
        have := hws t (List.mem_of_getElem? hp.out)
        unfold maxLen at this
        omega
      have hTn := tameL_ne t
      have hTw := tameL_word t
      have hTl := tameL_len t
      have hT2 := Lib.hid (fun w => tame_ok w t htl)
      have Hq1 := Lib.hid q1
      generalize tameL t = T at *
      by_cases hkm : k < m
      · obtain ⟨b', o', z, rfl, hbB', hp', q2⟩ := hr'.atY hkm
        have p2 : wr.cell? ⟨b', o' + k, none⟩ = some (.int .u8 z.toNat) := (((hs1.trans (hbo.mono hs1s)).trans (hbr.mono (by omega))).cell (p := ⟨b', o' + k, none⟩) (by simp; omega)).trans q2
        have hz8 := z.toNat_lt
        clear q1 q2
        by_cases hodd : z.toNat % 2 = 1
        ·
          have ho2 : (((z.toNat : Int) % 2) == 1) = true := by first | (simp; done) | (simp; omega)
          have ho3 : bits .and .u8 (z.toNat : Int) 1 = 1 := by rw [bits_one z]; omega
          have hex8 : (ByteArray.mk #[32, 32, 32, 32, 32, 32, 32, 32]).extract 0 (1 + z.toNat / 2 % 8) = ⟨(List.replicate (z.toNat / 2 % 8 + 1) (32 : UInt8)).toArray⟩ := by
            rw [show 1 + z.toNat / 2 % 8 = z.toNat / 2 % 8 + 1 by omega]
            exact eight_extract _ (by omega)
          have hwr2 := Lib.hid (writ_word hwr T (z.toNat / 2 % 8) hTw)
          have hone := Lib.hid (one_app cur T (z.toNat / 2 % 8) hwr.2.2 hTn hTw)
          obtain ⟨bl, hbl⟩ : ∃ bl, List.replicate (z.toNat / 2 % 8 + 1) (32 : UInt8) = bl := ⟨_, rfl⟩
          have hbll : bl.length ≤ 8 := by rw [← hbl, List.length_replicate]; omega
          rw [hbl] at hex8 hwr2 hone
          clear hbl
          obtain ⟨q, hq⟩ : ∃ q, (cur ++ bl).length = q := ⟨_, rfl⟩
          obtain ⟨s1, hs1'⟩ : ∃ s1, s ++ bl = s1 := ⟨_, rfl⟩
          obtain ⟨s2, hs2'⟩ : ∃ s2, s1 ++ T = s2 := ⟨_, rfl⟩
          obtain ⟨s3, hs3'⟩ : ∃ s3, s2 ++ [10] = s3 := ⟨_, rfl⟩
          have l1 : s1.length ≤ s.length + 8 := by rw [← hs1', List.length_append]; omega
          have l2 : s2.length ≤ s.length + 20 := by rw [← hs2', List.length_append]; omega
          have l3 : s3.length ≤ s.length + 21 := by rw [← hs3', List.length_append]; simp; omega
          have hAt : (s1.length : Int) - (fr : Int) = (q : Int) := by
            have := hwr.2.1
            rw [← hq, ← hs1', List.length_append, List.length_append]
            omega
          have a1 : (ByteArray.mk s.toArray) ++ ⟨bl.toArray⟩ = ⟨s1.toArray⟩ := by rw [← hs1']; exact app_bytes _ _
          have a2 : (ByteArray.mk s1.toArray) ++ ⟨T.toArray⟩ = ⟨s2.toArray⟩ := by rw [← hs2']; exact app_bytes _ _
          have a3 : (ByteArray.mk s2.toArray) ++ ⟨#[10]⟩ = ⟨s3.toArray⟩ := by rw [← hs3']; exact app_bytes _ _
          rw [hs1', hs2'] at hwr2
          rw [hq] at hone
          have hfq : (fr : Int) ≤ (s1.length : Int) := by omega
          have hol : (one cur).length ≤ 30 := by omega
          have hsl2 : s.length ≤ 700 := by omega
          have hrow2 : Hid (∀ (W : World) (v : Value), W.ownsRow Wo.heap.size 35 3 v ((one cur).length + 1) (c3s (num ln (one cur)) ++ [.int .i64 (ln : Int), .int .i64 (q : Int), .string ⟨T.toArray⟩]) → W.ownsRow Wo.heap.size 35 3 v (one (cur ++ bl ++ T)).length (c3s (num ln (one (cur ++ bl ++ T))))) := by
            intro W v h
            rw [hone.out, num_app, List.length_append]
            exact h
          have hs3l : Hid (s3.length = (s2 ++ [10]).length ∧ s2 ++ [10] = s3) := ⟨by rw [hs3'], hs3'⟩
          have Hln := Lib.hid hln
          have hbW : Hid (∀ w2 : World, (wr.alloc (.cells #[.int .i64 (ln : Int), .int .i64 (q : Int), .string ⟨T.toArray⟩] 35)).grownBy w2 (Value.slice A2 (one cur).length c2).ownBlock → Below Wo.heap.size Wo w2 ∧ w2.cell? ⟨b, o + k, none⟩ = some (.string ⟨t.toArray⟩)) := fun w2 hg2 => by
            have h1 : Below Wo.heap.size Wo w2 := (hbr.alloc (by omega) _).grown hg2 (by simp; omega) (fun g hg => (hrow.lt g hg).1)
            exact ⟨h1, (((hs1.trans (hbo.mono hs1s)).trans (h1.mono (by omega))).cell (p := ⟨b, o + k, none⟩) (by simp; omega)).trans Hq1.out⟩
          clear hq hs1' hs2' hs3' hTn hTw hwr hln
          go_wp2_with (first | (go_at_call 19; refine (hT2.out _).mono ?_; rintro e w' ⟨rfl, rfl⟩) | (at_builtin; refine wpList_append_any _ rfl (.tmp 44) (.tmp 56) 32 rfl Wo.heap.size 35 i0 _ 3 32 Tryd.underlying32 hi0 hz0 hz1 hz2 rfl (by decide) (.slice A2 (one cur).length c2) (one cur).length _ rfl (hrow.alloc _) (wr.heap.size + 1) (some ⟨wr.heap.size, 0, none⟩) 1 1 [.int .i64 (ln : Int), .int .i64 (q : Int), .string ⟨T.toArray⟩] rfl (by exact Rd.newAt _ _ (by simp) #[.int .i64 (ln : Int), .int .i64 (q : Int), .string ⟨T.toArray⟩] 35 1 3 rfl) (by simp [Value.oneCell']) (by simp only [maxLen]; omega) (by omega) (by simp; omega) ?_; intro v2 w2 hown2 hg2 _; obtain ⟨A3, c3, rfl, -⟩ := Rd.of_own hown2; obtain ⟨hbW2, p3⟩ := hbW.out _ hg2; have hbW2s := hbW2.size) | (at_builtin; refine wpList_append_any _ rfl (.tmp 74) (.tmp 76) 24 rfl w1.heap.size 32 j0 _ 1 24 Tryd.underlying24 hj0 hy0 hy1 hy2 rfl (by decide) (.slice A1 hs.length c1) hs.length hs rfl ((own_below how hbW2).alloc _) (w2.heap.size + 1) (some ⟨w2.heap.size, 0, none⟩) 1 1 [.slice A3 ((one cur).length + 1) c3] rfl (by exact Rd.newAt _ _ (by simp) #[.slice A3 ((one cur).length + 1) c3] 32 1 1 rfl) (by simp [Value.oneCell']) (by simp only [maxLen]; omega) (by omega) (by simp; omega) ?_; intro v5 w5 hown5 hg5 _; obtain ⟨A5, c5, rfl, -⟩ := Rd.of_own hown5))
          have hW5 := (hbo.trans (hbW2.mono hbos)).alloc (by omega) (.cells #[.slice A3 ((one cur).length + 1) c3] 32)
          have hb15 : Below w1.heap.size w1 w5 := hW5.grown hg5 (by simp; omega) (fun g hg => (how.lt g hg).1)
          have hrd : RdT w2 35 A3 ((one cur).length + 1) 3 (c3s (num ln (one (cur ++ bl ++ T)))) := by
            have := hrow2.out _ _ hown2
            rw [hone.out, List.length_append] at this
            rw [hone.out]
            exact own_rdT this
          have hrows5 : RowsIn 35 w5 (hs ++ [.slice A3 ((one cur).length + 1) c3]) (linesFrom 1 (done ++ [cur ++ bl ++ T])) := by
            rw [linesFrom_snoc, if_neg (by rw [hone.out]; simp)]
            rw [Hln.out] at hrd
            exact ((((hrows.below hbW2).snoc hrd).alloc _).grown ((own_below how hbW2).alloc _) hg5 (by decide))
          go_roundw
          case rel =>
            refine ⟨k + 1, ln + 1, s3.length, s3, by omega, by omega, rfl, by simp, rfl, by simp, done ++ [cur ++ bl ++ T], [], hs ++ [.slice A3 ((one cur).length + 1) c3], w5, ?_, by have := Hln.out; simp; omega, by simp; omega, by simp [one_nil], by simp; omega, by omega, by simpa using hown5, hrows5, hb15, (Below.refl _ _).alloc (Nat.le_refl _) _, ?_⟩
            · have := writ_line hwr2.out
              rw [hs3l.out.2] at this
              exact this
            · rw [one_nil]
              exact World.ownsRow_made w5 #[] 0 (Nat.le_refl _) (by simp [maxLen]) rfl
          case measure => simp [intOf]; omega
        ·
          have ho2 : (((z.toNat : Int) % 2) == 1) = false := by first | (simp; done) | (simp; omega)
          have ho3 : bits .and .u8 (z.toNat : Int) 1 = 0 := by rw [bits_one z]; omega
          have hex8 : (ByteArray.mk #[32, 32, 32, 32, 32, 32, 32, 32]).extract 0 (1 + z.toNat / 2 % 8) = ⟨(List.replicate (z.toNat / 2 % 8 + 1) (32 : UInt8)).toArray⟩ := by
            rw [show 1 + z.toNat / 2 % 8 = z.toNat / 2 % 8 + 1 by omega]
            exact eight_extract _ (by omega)
          have hwr2 := Lib.hid (writ_word hwr T (z.toNat / 2 % 8) hTw)
          have hone := Lib.hid (one_app cur T (z.toNat / 2 % 8) hwr.2.2 hTn hTw)
          obtain ⟨bl, hbl⟩ : ∃ bl, List.replicate (z.toNat / 2 % 8 + 1) (32 : UInt8) = bl := ⟨_, rfl⟩
          have hbll : bl.length ≤ 8 := by rw [← hbl, List.length_replicate]; omega
          rw [hbl] at hex8 hwr2 hone
          clear hbl
          obtain ⟨q, hq⟩ : ∃ q, (cur ++ bl).length = q := ⟨_, rfl⟩
          obtain ⟨s1, hs1'⟩ : ∃ s1, s ++ bl = s1 := ⟨_, rfl⟩
          obtain ⟨s2, hs2'⟩ : ∃ s2, s1 ++ T = s2 := ⟨_, rfl⟩
          obtain ⟨s3, hs3'⟩ : ∃ s3, s2 ++ [10] = s3 := ⟨_, rfl⟩
          have l1 : s1.length ≤ s.length + 8 := by rw [← hs1', List.length_append]; omega
          have l2 : s2.length ≤ s.length + 20 := by rw [← hs2', List.length_append]; omega
          have l3 : s3.length ≤ s.length + 21 := by rw [← hs3', List.length_append]; simp; omega
          have hAt : (s1.length : Int) - (fr : Int) = (q : Int) := by
            have := hwr.2.1
            rw [← hq, ← hs1', List.length_append, List.length_append]
            omega
          have a1 : (ByteArray.mk s.toArray) ++ ⟨bl.toArray⟩ = ⟨s1.toArray⟩ := by rw [← hs1']; exact app_bytes _ _
          have a2 : (ByteArray.mk s1.toArray) ++ ⟨T.toArray⟩ = ⟨s2.toArray⟩ := by rw [← hs2']; exact app_bytes _ _
          have a3 : (ByteArray.mk s2.toArray) ++ ⟨#[10]⟩ = ⟨s3.toArray⟩ := by rw [← hs3']; exact app_bytes _ _
          rw [hs1', hs2'] at hwr2
          rw [hq] at hone
          have hfq : (fr : Int) ≤ (s1.length : Int) := by omega
          have hol : (one cur).length ≤ 30 := by omega
          have hsl2 : s.length ≤ 700 := by omega
          have hrow2 : Hid (∀ (W : World) (v : Value), W.ownsRow Wo.heap.size 35 3 v ((one cur).length + 1) (c3s (num ln (one cur)) ++ [.int .i64 (ln : Int), .int .i64 (q : Int), .string ⟨T.toArray⟩]) → W.ownsRow Wo.heap.size 35 3 v (one (cur ++ bl ++ T)).length (c3s (num ln (one (cur ++ bl ++ T))))) := by
            intro W v h
            rw [hone.out, num_app, List.length_append]
            exact h
          have hs3l : Hid (s3.length = (s2 ++ [10]).length ∧ s2 ++ [10] = s3) := ⟨by rw [hs3'], hs3'⟩
          have Hln := Lib.hid hln
          have hbW : Hid (∀ w2 : World, (wr.alloc (.cells #[.int .i64 (ln : Int), .int .i64 (q : Int), .string ⟨T.toArray⟩] 35)).grownBy w2 (Value.slice A2 (one cur).length c2).ownBlock → Below Wo.heap.size Wo w2 ∧ w2.cell? ⟨b, o + k, none⟩ = some (.string ⟨t.toArray⟩)) := fun w2 hg2 => by
            have h1 : Below Wo.heap.size Wo w2 := (hbr.alloc (by omega) _).grown hg2 (by simp; omega) (fun g hg => (hrow.lt g hg).1)
            exact ⟨h1, (((hs1.trans (hbo.mono hs1s)).trans (h1.mono (by omega))).cell (p := ⟨b, o + k, none⟩) (by simp; omega)).trans Hq1.out⟩
          clear hq hs1' hs2' hs3' hTn hTw hwr hln
          go_wp2_with (first | (go_at_call 19; refine (hT2.out _).mono ?_; rintro e w' ⟨rfl, rfl⟩) | (at_builtin; refine wpList_append_any _ rfl (.tmp 44) (.tmp 56) 32 rfl Wo.heap.size 35 i0 _ 3 32 Tryd.underlying32 hi0 hz0 hz1 hz2 rfl (by decide) (.slice A2 (one cur).length c2) (one cur).length _ rfl (hrow.alloc _) (wr.heap.size + 1) (some ⟨wr.heap.size, 0, none⟩) 1 1 [.int .i64 (ln : Int), .int .i64 (q : Int), .string ⟨T.toArray⟩] rfl (by exact Rd.newAt _ _ (by simp) #[.int .i64 (ln : Int), .int .i64 (q : Int), .string ⟨T.toArray⟩] 35 1 3 rfl) (by simp [Value.oneCell']) (by simp only [maxLen]; omega) (by omega) (by simp; omega) ?_; intro v2 w2 hown2 hg2 _; obtain ⟨A3, c3, rfl, -⟩ := Rd.of_own hown2; obtain ⟨hbW2, p3⟩ := hbW.out _ hg2; have hbW2s := hbW2.size))
          go_roundw
          case rel =>
            refine ⟨k + 1, ln, fr, s2, by omega, by omega, rfl, rfl, rfl, by simp, done, cur ++ bl ++ T, hs, Wo, hwr2.out, Hln.out, by omega, by rw [hone.out, List.length_append]; simp; omega, by omega, by omega, how, hrows, hbo, ?_, hrow2.out _ _ hown2⟩
            exact (hbr.alloc (by omega) _).grown hg2 (by simp; omega) (fun g hg => (hrow.lt g hg).1)
          case measure => simp [intOf]; omega
      · clear q1
        have hex8 : (ByteArray.mk #[32, 32, 32, 32, 32, 32, 32, 32]).extract 0 (1) = ⟨(List.replicate (0 + 1) (32 : UInt8)).toArray⟩ := by
          rw [show 1 = 0 + 1 by omega]
          exact eight_extract _ (by omega)
        have hwr2 := Lib.hid (writ_word hwr T (0) hTw)
        have hone := Lib.hid (one_app cur T (0) hwr.2.2 hTn hTw)
        obtain ⟨bl, hbl⟩ : ∃ bl, List.replicate (0 + 1) (32 : UInt8) = bl := ⟨_, rfl⟩
        have hbll : bl.length ≤ 8 := by rw [← hbl, List.length_replicate]; omega
        rw [hbl] at hex8 hwr2 hone
        clear hbl
        obtain ⟨q, hq⟩ : ∃ q, (cur ++ bl).length = q := ⟨_, rfl⟩
        obtain ⟨s1, hs1'⟩ : ∃ s1, s ++ bl = s1 := ⟨_, rfl⟩
        obtain ⟨s2, hs2'⟩ : ∃ s2, s1 ++ T = s2 := ⟨_, rfl⟩
        obtain ⟨s3, hs3'⟩ : ∃ s3, s2 ++ [10] = s3 := ⟨_, rfl⟩
        have l1 : s1.length ≤ s.length + 8 := by rw [← hs1', List.length_append]; omega
        have l2 : s2.length ≤ s.length + 20 := by rw [← hs2', List.length_append]; omega
        have l3 : s3.length ≤ s.length + 21 := by rw [← hs3', List.length_append]; simp; omega
        have hAt : (s1.length : Int) - (fr : Int) = (q : Int) := by
          have := hwr.2.1
          rw [← hq, ← hs1', List.length_append, List.length_append]
          omega
        have a1 : (ByteArray.mk s.toArray) ++ ⟨bl.toArray⟩ = ⟨s1.toArray⟩ := by rw [← hs1']; exact app_bytes _ _
        have a2 : (ByteArray.mk s1.toArray) ++ ⟨T.toArray⟩ = ⟨s2.toArray⟩ := by rw [← hs2']; exact app_bytes _ _
        have a3 : (ByteArray.mk s2.toArray) ++ ⟨#[10]⟩ = ⟨s3.toArray⟩ := by rw [← hs3']; exact app_bytes _ _
        rw [hs1', hs2'] at hwr2
        rw [hq] at hone
        have hfq : (fr : Int) ≤ (s1.length : Int) := by omega
        have hol : (one cur).length ≤ 30 := by omega
        have hsl2 : s.length ≤ 700 := by omega
        have hrow2 : Hid (∀ (W : World) (v : Value), W.ownsRow Wo.heap.size 35 3 v ((one cur).length + 1) (c3s (num ln (one cur)) ++ [.int .i64 (ln : Int), .int .i64 (q : Int), .string ⟨T.toArray⟩]) → W.ownsRow Wo.heap.size 35 3 v (one (cur ++ bl ++ T)).length (c3s (num ln (one (cur ++ bl ++ T))))) := by
          intro W v h
          rw [hone.out, num_app, List.length_append]
          exact h
        have hs3l : Hid (s3.length = (s2 ++ [10]).length ∧ s2 ++ [10] = s3) := ⟨by rw [hs3'], hs3'⟩
        have Hln := Lib.hid hln
        have hbW : Hid (∀ w2 : World, (wr.alloc (.cells #[.int .i64 (ln : Int), .int .i64 (q : Int), .string ⟨T.toArray⟩] 35)).grownBy w2 (Value.slice A2 (one cur).length c2).ownBlock → Below Wo.heap.size Wo w2 ∧ w2.cell? ⟨b, o + k, none⟩ = some (.string ⟨t.toArray⟩)) := fun w2 hg2 => by
          have h1 : Below Wo.heap.size Wo w2 := (hbr.alloc (by omega) _).grown hg2 (by simp; omega) (fun g hg => (hrow.lt g hg).1)
          exact ⟨h1, (((hs1.trans (hbo.mono hs1s)).trans (h1.mono (by omega))).cell (p := ⟨b, o + k, none⟩) (by simp; omega)).trans Hq1.out⟩
        clear hq hs1' hs2' hs3' hTn hTw hwr hln
        go_wp2_with (first | (go_at_call 19; refine (hT2.out _).mono ?_; rintro e w' ⟨rfl, rfl⟩) | (at_builtin; refine wpList_append_any _ rfl (.tmp 44) (.tmp 56) 32 rfl Wo.heap.size 35 i0 _ 3 32 Tryd.underlying32 hi0 hz0 hz1 hz2 rfl (by decide) (.slice A2 (one cur).length c2) (one cur).length _ rfl (hrow.alloc _) (wr.heap.size + 1) (some ⟨wr.heap.size, 0, none⟩) 1 1 [.int .i64 (ln : Int), .int .i64 (q : Int), .string ⟨T.toArray⟩] rfl (by exact Rd.newAt _ _ (by simp) #[.int .i64 (ln : Int), .int .i64 (q : Int), .string ⟨T.toArray⟩] 35 1 3 rfl) (by simp [Value.oneCell']) (by simp only [maxLen]; omega) (by omega) (by simp; omega) ?_; intro v2 w2 hown2 hg2 _; obtain ⟨A3, c3, rfl, -⟩ := Rd.of_own hown2; obtain ⟨hbW2, p3⟩ := hbW.out _ hg2; have hbW2s := hbW2.size))
        go_roundw
        case rel =>
          refine ⟨k + 1, ln, fr, s2, by omega, by omega, rfl, rfl, rfl, by simp, done, cur ++ bl ++ T, hs, Wo, hwr2.out, Hln.out, by omega, by rw [hone.out, List.length_append]; simp; omega, by omega, by omega, how, hrows, hbo, ?_, hrow2.out _ _ hown2⟩
          exact (hbr.alloc (by omega) _).grown hg2 (by simp; omega) (fun g hg => (hrow.lt g hg).1)
        case measure => simp [intOf]; omega
    · have hway : ¬ k < n ∨ (k < n ∧ ¬ k < 30) := by omega
      have hbw : Below w.heap.size w wr := ((hs1.trans (hbo.mono hs1s)).trans (hbr.mono (by omega)))
      have hlin := writ_lines hwr
      have hsl2 : s.length ≤ 700 := by omega
      have hol : (one cur).length ≤ 30 := by omega
      clear hlt
      by_cases hz : one cur = []
      · have hp0 : ¬ 0 < (one cur).length := by simp [hz]
        have hn7 : hs.length = (linesL s).length := by rw [hlin, if_pos hz, List.append_nil]; exact hrows.1
        have hat7 : RowsAt 35 wr A1 (linesL s) := rowsAt_own (own_below how hbr) (by rw [hlin, if_pos hz, List.append_nil]; exact hrows.below hbr) hn7
        have hbw3 := hbw
        clear hz hlin hwr hrow hrows how hbo hbr hln hinv0
        rcases hway with hway | ⟨hway, hway2⟩
        all_goals
          have hll := linesL_bound s
          have hRb : (linesL s).length ≤ 1000 := by have := hll.1; omega
          have hL := Lib.hid (fun w => lines_ok w s (by omega))
          have hrb : Hid (∀ (i : Nat) (r : List P3), (linesL s)[i]? = some r → r.length ≤ 1000) := fun i r hi => by have := hll.2 i r hi; omega
          clear hll
          generalize linesL s = rows at *
          rw [hn7]
          clear hn7
          go_wp2_with fail
          refine (hL.out _).mono ?_
          rintro e w3 ⟨v3, rfl, hret3⟩
          obtain ⟨A3, c3, rfl, hat3, hb3⟩ := RowsAt.of hret3
          have hat7' := hat7.below hb3
          have htx := Lib.hid (texts_ok w3 rows rows A3 A1 c3 c1 hat3 hat7' rfl (by omega) (fun i r hi => by have := hrb.out i r hi; omega))
          have hbA := Lib.hid (btB hbw3 hb3)
          clear hret3 hat7 hb3 hbw3 hL
          go_wp2_with fail
          refine htx.out.mono ?_
          rintro e w4 ⟨rfl, hb4⟩
          have HA := Lib.hid (hat3.below hb4)
          have HA' := Lib.hid (hat7'.below hb4)
          have hbB := Lib.hid (btB hbA.out hb4)
          clear hat3 hat7' hb4 hbA htx
          go_wp2_with fail
          go_loopw [14] (fun i wr => ∃ k q : Nat, k ≤ rows.length ∧ i = .int .i64 k ∧ wr = w4.drewN q) (fun i _ => rows.length - (intOf i).toNat)
          case atStart => exact ⟨0, 0, by omega, rfl, rfl⟩
          case round =>
            obtain ⟨k2, q, hk2, rfl, rfl⟩ := hrel
            by_cases hlt : k2 < rows.length
            · obtain ⟨r, hr2⟩ : ∃ r, rows[k2]? = some r := ⟨_, List.getElem?_eq_getElem hlt⟩
              obtain ⟨b, o, rfl, hb, hc⟩ := HA.out (by omega)
              obtain ⟨b', o', rfl, hb', hc'⟩ := HA'.out (by omega)
              obtain ⟨B2, c2', p1, hrd⟩ := hc k2 r hr2
              obtain ⟨B2', c2'', p1', hrd'⟩ := hc' k2 r hr2
              have hrl := hrb.out k2 r hr2
              have zk : (k2 : Int) < (rows.length : Int) := by omega
              have zk0 : (0 : Int) ≤ (k2 : Int) := by omega
              clear hc hc' hr2
              go_wp2_with fail
              go_loopw [15] (fun i wr => ∃ j q : Nat, j ≤ r.length ∧ i = .int .i64 j ∧ wr = w4.drewN q) (fun i _ => r.length - (intOf i).toNat)
              case atStart => exact ⟨0, _, by omega, rfl, rfl⟩
              case round =>
                obtain ⟨j, q2, hj, rfl, rfl⟩ := hrel
                by_cases hjl : j < r.length
                · obtain ⟨p, hp⟩ : ∃ p, r[j]? = some p := ⟨_, List.getElem?_eq_getElem hjl⟩
                  obtain ⟨b2, o2, rfl, hb2, x1, x2, x3⟩ := hrd.at3 hp
                  obtain ⟨b3, o3, rfl, hb3, y1, y2, y3⟩ := hrd'.at3 hp
                  obtain ⟨px, py, pz⟩ := p
                  dsimp only at x1 x2 x3 y1 y2 y3
                  have nq35 := fun w => neq35 w px py pz
                  have zj : (j : Int) < (r.length : Int) := by omega
                  have zj0 : (0 : Int) ≤ (j : Int) := by omega
                  clear hp hrd hrd'
                  go_wp2_with fail
                  go_quiet (fail)
                  go_wp2_with fail
                  go_roundw
                  case rel => exact ⟨j + 1, _, by omega, by go_num, rfl⟩
                  case measure => simp [intOf]; omega
                · go_wp2_with fail
                  go_roundw
                  case rel => exact ⟨k2 + 1, _, by omega, by go_num, rfl⟩
                  case measure => simp [intOf]; omega
            · go_wp2_with fail
              go_ret
              exact ⟨rfl, below_drewN hbB.out q⟩
      · have hp0 : 0 < (one cur).length := List.length_pos_iff.2 hz
        have hpost : Hid (∀ (w5 : World) (A5 : Option Addr) (c5 : Nat), w5.ownsRow w1.heap.size 32 1 (.slice A5 (hs.length + 1) c5) (hs.length + 1) (hs ++ [.slice A2 (one cur).length c2]) → (wr.alloc (.cells #[.slice A2 (one cur).length c2] 32)).grownBy w5 (Value.slice A1 hs.length c1).ownBlock → (hs.length + 1 = (linesL s).length ∧ RowsAt 35 w5 A5 (linesL s)) ∧ Below w.heap.size w w5) := by
          intro w5 A5 c5 hown5 hg5
          have hrd : RdT wr 35 A2 (one cur).length 3 (c3s (num (done.length + 1) (one cur))) := by rw [← hln]; exact own_rdT hrow
          have r5 : RowsIn 35 w5 (hs ++ [.slice A2 (one cur).length c2]) (linesL s) := by
            rw [hlin, if_neg hz]
            exact ((((hrows.below hbr).snoc hrd).alloc _).grown ((own_below how hbr).alloc _) hg5 (by decide))
          have hn7 : hs.length + 1 = (linesL s).length := by have := r5.1; simpa using this
          refine ⟨⟨hn7, rowsAt_own hown5 r5 hn7⟩, ?_⟩
          exact (hbw.alloc hbw.size _).grown hg5 (by simp; omega) (fun g hg => by have := (how.lt g hg).1; omega)
        have how2 := own_below how hbr
        clear hz hlin hwr hrow hrows how hbo hbr hln hinv0
        rcases hway with hway | ⟨hway, hway2⟩
        all_goals
          go_wp2_with (at_builtin; refine wpList_append_any _ rfl (.tmp 82) (.tmp 84) 24 rfl w1.heap.size 32 j0 _ 1 24 Tryd.underlying24 hj0 hy0 hy1 hy2 rfl (by decide) (.slice A1 hs.length c1) hs.length hs rfl (how2.alloc _) (wr.heap.size + 1) (some ⟨wr.heap.size, 0, none⟩) 1 1 [.slice A2 (one cur).length c2] rfl (by exact Rd.newAt _ _ (by simp) #[.slice A2 (one cur).length c2] 32 1 1 rfl) (by simp [Value.oneCell']) (by simp only [maxLen]; omega) (by omega) (by simp; omega) ?_; intro v5 w5 hown5 hg5 _; obtain ⟨A5, c5, rfl, -⟩ := Rd.of_own hown5)
          obtain ⟨⟨hn7, hat7⟩, hbw3⟩ := hpost.out _ _ _ hown5 hg5
          clear hpost how2 hown5 hg5
          have hll := linesL_bound s
          have hRb : (linesL s).length ≤ 1000 := by have := hll.1; omega
          have hL := Lib.hid (fun w => lines_ok w s (by omega))
          have hrb : Hid (∀ (i : Nat) (r : List P3), (linesL s)[i]? = some r → r.length ≤ 1000) := fun i r hi => by have := hll.2 i r hi; omega
          clear hll
          generalize linesL s = rows at *
          rw [hn7]
          clear hn7
          go_wp2_with fail
          refine (hL.out _).mono ?_
          rintro e w3 ⟨v3, rfl, hret3⟩
          obtain ⟨A3, c3, rfl, hat3, hb3⟩ := RowsAt.of hret3
          have hat7' := hat7.below hb3
          have htx := Lib.hid (texts_ok w3 rows rows A3 A5 c3 c5 hat3 hat7' rfl (by omega) (fun i r hi => by have := hrb.out i r hi; omega))
          have hbA := Lib.hid (btB hbw3 hb3)
          clear hret3 hat7 hb3 hbw3 hL
          go_wp2_with fail
          refine htx.out.mono ?_
          rintro e w4 ⟨rfl, hb4⟩
          have HA := Lib.hid (hat3.below hb4)
          have HA' := Lib.hid (hat7'.below hb4)
          have hbB := Lib.hid (btB hbA.out hb4)
          clear hat3 hat7' hb4 hbA htx
          go_wp2_with fail
          go_loopw [14] (fun i wr => ∃ k q : Nat, k ≤ rows.length ∧ i = .int .i64 k ∧ wr = w4.drewN q) (fun i _ => rows.length - (intOf i).toNat)
          case atStart => exact ⟨0, 0, by omega, rfl, rfl⟩
          case round =>
            obtain ⟨k2, q, hk2, rfl, rfl⟩ := hrel
            by_cases hlt : k2 < rows.length
            · obtain ⟨r, hr2⟩ : ∃ r, rows[k2]? = some r := ⟨_, List.getElem?_eq_getElem hlt⟩
              obtain ⟨b, o, rfl, hb, hc⟩ := HA.out (by omega)
              obtain ⟨b', o', rfl, hb', hc'⟩ := HA'.out (by omega)
              obtain ⟨B2, c2', p1, hrd⟩ := hc k2 r hr2
              obtain ⟨B2', c2'', p1', hrd'⟩ := hc' k2 r hr2
              have hrl := hrb.out k2 r hr2
              have zk : (k2 : Int) < (rows.length : Int) := by omega
              have zk0 : (0 : Int) ≤ (k2 : Int) := by omega
              clear hc hc' hr2
              go_wp2_with fail
              go_loopw [15] (fun i wr => ∃ j q : Nat, j ≤ r.length ∧ i = .int .i64 j ∧ wr = w4.drewN q) (fun i _ => r.length - (intOf i).toNat)
              case atStart => exact ⟨0, _, by omega, rfl, rfl⟩
              case round =>
                obtain ⟨j, q2, hj, rfl, rfl⟩ := hrel
                by_cases hjl : j < r.length
                · obtain ⟨p, hp⟩ : ∃ p, r[j]? = some p := ⟨_, List.getElem?_eq_getElem hjl⟩
                  obtain ⟨b2, o2, rfl, hb2, x1, x2, x3⟩ := hrd.at3 hp
                  obtain ⟨b3, o3, rfl, hb3, y1, y2, y3⟩ := hrd'.at3 hp
                  obtain ⟨px, py, pz⟩ := p
                  dsimp only at x1 x2 x3 y1 y2 y3
                  have nq35 := fun w => neq35 w px py pz
                  have zj : (j : Int) < (r.length : Int) := by omega
                  have zj0 : (0 : Int) ≤ (j : Int) := by omega
                  clear hp hrd hrd'
                  go_wp2_with fail
                  go_quiet (fail)
                  go_wp2_with fail
                  go_roundw
                  case rel => exact ⟨j + 1, _, by omega, by go_num, rfl⟩
                  case measure => simp [intOf]; omega
                · go_wp2_with fail
                  go_roundw
                  case rel => exact ⟨k2 + 1, _, by omega, by go_num, rfl⟩
                  case measure => simp [intOf]; omega
            · go_wp2_with fail
              go_ret
              exact ⟨rfl, below_drewN hbB.out q⟩
end Go.Proofs.YtccnogdfnikioaaDoor

