/- fleuronlaw05.WordsSets returns true. -/
import Derived.Test.YtccnogdfnikioaaDoorShown
import Derived.Test.YtccnogdfnikioaaDoorRefSets
import Derived.Test.YtccnogdfnikioaaDoorOpen
namespace Go.Proofs.YtccnogdfnikioaaDoor
open Go.RowKit

theorem setsGo_bound (N : Nat) (ws : List P3) : ∀ (op : Bool) (row : List P3) (told rows : List (List P3)), setsGo op row told ws = some rows → (∀ r ∈ told, r.length ≤ N) → row.length + ws.length ≤ N → (∀ r ∈ rows, r.length ≤ N) ∧ rows.length ≤ told.length + ws.length := by
  induction ws with
  | nil =>
    intro op row told rows h ht hl
    rw [setsGo] at h
    split at h
    · cases h
    · cases h
      exact ⟨ht, by simp⟩
  | cons w r ih =>
    intro op row told rows h ht hl
    simp only [List.length_cons] at hl
    rw [setsGo] at h
    split at h
    · split at h
      · cases h
      · obtain ⟨h1, h2⟩ := ih _ _ _ _ h ht (by simp; omega)
        exact ⟨h1, by simp; omega⟩
    · split at h
      · split at h
        · obtain ⟨h1, h2⟩ := ih _ _ _ _ h (fun q hq => by
            rw [List.mem_append] at hq
            rcases hq with hq | hq
            · exact ht q hq
            · simp at hq
              subst hq
              omega) (by simp; omega)
          refine ⟨h1, ?_⟩
          rw [List.length_append] at h2
          simp at h2 ⊢
          omega
        · cases h
      · split at h
        · obtain ⟨h1, h2⟩ := ih _ _ _ _ h ht (by simp; omega)
          exact ⟨h1, by simp; omega⟩
        · obtain ⟨h1, h2⟩ := ih _ _ _ _ h (fun q hq => by
            rw [List.mem_append] at hq
            rcases hq with hq | hq
            · exact ht q hq
            · simp at hq
              subst hq
              simp
              omega) (by simp; omega)
          refine ⟨h1, ?_⟩
          rw [List.length_append] at h2
          simp at h2 ⊢
          omega
theorem setsL_bound (ws : List P3) (rows : List (List P3)) (h : setsL ws = some rows) : rows.length ≤ ws.length ∧ ∀ (i : Nat) (r : List P3), rows[i]? = some r → r.length ≤ ws.length := by
  obtain ⟨h1, h2⟩ := setsGo_bound ws.length ws false [] [] rows h (by simp) (by simp)
  exact ⟨by simpa using h2, fun i r hi => h1 r (List.mem_of_getElem? hi)⟩
theorem btS {a b c : World} (h : Below a.heap.size a b) (k : Below b.heap.size b c) : Below a.heap.size a c := h.trans (k.mono h.size)
def txtW (ss : List B) (zs : List UInt8) (i : Nat) : B :=
  match zs[i]? with
  | some c => if c.toNat % 4 = 1 then [91] else if c.toNat % 4 = 2 then [93] else ((ss[i]?).getD []).take 20
  | none => ((ss[i]?).getD []).take 20
def wW (ss : List B) (zs : List UInt8) (k : Nat) : List P3 := (List.range k).map fun i : Nat => ((i : Int), (7 : Int), txtW ss zs i)
theorem wW_len (ss : List B) (zs : List UInt8) (k : Nat) : (wW ss zs k).length = k := by simp [wW]
theorem wW_snoc (ss : List B) (zs : List UInt8) (k : Nat) : c3s (wW ss zs (k + 1)) = c3s (wW ss zs k) ++ [.int .i64 (k : Int), .int .i64 7, .string ⟨(txtW ss zs k).toArray⟩] := by
  rw [wW, List.range_succ, List.map_append, c3s_append]
  rfl
theorem min20 (s : B) : (ByteArray.mk s.toArray).extract 0 (min (s.length : Int) 20).toNat = ⟨(s.take 20).toArray⟩ := by
  rw [extract_list, List.drop_zero]
  have e : (min (s.length : Int) 20).toNat = min s.length 20 := by omega
  have e2 : s.take (min s.length 20) = s.take 20 := by rw [Nat.min_comm, ← List.take_take, List.take_length]
  rw [e, e2]
set_option maxRecDepth 100000 in
set_option maxHeartbeats 8000000 in
theorem wordsSets_ok (w : World) (A : Option Addr) (n c : Nat) (ss : List (List UInt8)) (hr : Rd w w.heap.size A n 1 (cSs ss) ∧ ∀ s ∈ ss, s.length ≤ maxLen) (_hc : n ≤ c) (hm : c ≤ maxLen)
    (A' : Option Addr) (m d : Nat) (zs : List UInt8) (hr' : Rd w w.heap.size A' m 1 (cYs zs)) (_hd : m ≤ d) (hm' : d ≤ maxLen) :
    Calls Tryd.prog 4 #[.slice A n c, .slice A' m d] w fun e w' => e = .returned (.bool true) ∧ Below w.heap.size w w' := by
  obtain ⟨i0, hi0, hz0, hz1, hz2⟩ := info_parts infoS35
  obtain ⟨j0, hj0, hy0, hy1, hy2⟩ := info_parts infoR36
  obtain ⟨hr, hws⟩ := hr
  have hn : n ≤ 9223372036854775807 := by unfold maxLen at hm; omega
  have hmm : m ≤ 9223372036854775807 := by unfold maxLen at hm'; omega
  clear hm hm'
  go_enter Tryd.func4, Tryd.ntmps4
  go_wp2_with fail
  refine (shown_ok _).mono ?_
  rintro e w1 ⟨rfl, hs1⟩
  go_wp2_with fail
  have hP : (w1.alloc (.cells #[] 35)).ownsRow w1.heap.size 35 3 (.slice (some ⟨w1.heap.size, 0, none⟩) 0 0) 0 [] := World.ownsRow_made w1 #[] 0 (Nat.le_refl _) (by simp [maxLen]) rfl
  have hQ : ((w1.alloc (.cells #[] 35)).alloc (.cells #[] 36)).ownsRow w1.heap.size 36 3 (.slice (some ⟨w1.heap.size + 1, 0, none⟩) 0 0) 0 [] := by
    have := World.ownsRow_made (w1.alloc (.cells #[] 35)) (e := 36) (size := 3) (base := w1.heap.size) #[] 0 (by simp) (by simp [maxLen]) rfl
    simp only [World.size_alloc] at this
    exact this
  go_loopw [6, 7, 8] (fun a b i wr => ∃ k : Nat, k ≤ n ∧ k ≤ 60 ∧ i = .int .i64 k ∧ wr.ownsRow w1.heap.size 35 3 a k (c3s (wW ss zs k)) ∧ wr.ownsRow w1.heap.size 36 3 b k (c3s (wW ss zs k)) ∧ Below w1.heap.size w1 wr) (fun _ _ i _ => 60 - (intOf i).toNat)
  case atStart => exact ⟨0, by omega, by omega, rfl, hP.alloc _, hQ, ((Below.refl _ _).alloc (Nat.le_refl _) _).alloc (by simp) _⟩
  case round =>
    obtain ⟨k, hk, hk60, rfl, hoa, hob, hbl⟩ := hrel
    have hs1s := hs1.size
    have hsz := hbl.size
    obtain ⟨A1, c1, rfl, hrdA⟩ := Rd.of_own hoa
    obtain ⟨A2, c2, rfl, hrdB⟩ := Rd.of_own hob
    by_cases hlt : k < n ∧ k < 60
    · obtain ⟨hlt, hl60⟩ := hlt
      obtain ⟨b, o, s, rfl, hbB, hp, q1⟩ := hr.atS hlt
      have p1 : wr.cell? ⟨b, o + k, none⟩ = some (.string ⟨s.toArray⟩) := ((hs1.trans (hbl.mono hs1s)).cell (p := ⟨b, o + k, none⟩) (by simp; omega)).trans q1
      have hmin := min20 s
      have zk : (k : Int) < (n : Int) := by omega
      have zk0 : (0 : Int) ≤ (k : Int) := by omega
      go_wp2_with fail
      go_quiet (fail)
      obtain ⟨W1, hW1⟩ : ∃ W1, W1 = wr.drewN nq := ⟨_, rfl⟩
      rw [← hW1]
      have hoa1 : W1.ownsRow w1.heap.size 35 3 (.slice A1 k c1) k (c3s (wW ss zs k)) := by rw [hW1]; exact own_drewN hoa nq
      have hob1 : W1.ownsRow w1.heap.size 36 3 (.slice A2 k c2) k (c3s (wW ss zs k)) := by rw [hW1]; exact own_drewN hob nq
      have hbl1 : Below w1.heap.size w1 W1 := by rw [hW1]; exact below_drewN hbl nq
      have hsz1 := hbl1.size
      clear hW1 hoa hob hbl p1 hrdA hrdB hP hQ
      by_cases hkm : k < m
      · obtain ⟨b', o', z, rfl, hbB', hp', q2⟩ := hr'.atY hkm
        have p2 : W1.cell? ⟨b', o' + k, none⟩ = some (.int .u8 z.toNat) := ((hs1.trans (hbl1.mono hs1s)).cell (p := ⟨b', o' + k, none⟩) (by simp; omega)).trans q2
        have zkm : (k : Int) < (m : Int) := by omega
        have hz8 := z.toNat_lt
        by_cases h1 : z.toNat % 4 = 1
        · have htx : Hid (txtW ss zs k = [91]) := by
            show _ = _
            rw [txtW, hp'.out]
            simp [h1]
          have e1 : (((z.toNat : Int) % 4) == 1) = true := by simp; omega
          have e2 : (((z.toNat : Int) % 4) == 2) = false := by simp; omega
          clear h1 q1 q2
          go_wp2_with (first | (at_builtin; refine wpList_append_any _ rfl (.tmp 62) (.tmp 66) 32 rfl w1.heap.size 35 i0 _ 3 32 Tryd.underlying32 hi0 hz0 hz1 hz2 rfl (by decide) (.slice A1 k c1) k (c3s (wW ss zs k)) rfl (hoa1.alloc _) (W1.heap.size + 1) (some ⟨W1.heap.size, 0, none⟩) 1 1 [.int .i64 (k : Int), .int .i64 7, .string ⟨#[91]⟩] rfl (by exact Rd.newAt _ _ (by simp) #[.int .i64 (k : Int), .int .i64 7, .string ⟨#[91]⟩] 35 1 3 rfl) (by simp [Value.oneCell']) (by simp only [maxLen]; omega) (by omega) (by simp; omega) ?_; intro v2 w2 hown2 hg2 _; (have hob2 := (hob1.alloc (.cells #[.int .i64 (k : Int), .int .i64 7, .string ⟨#[91]⟩] 35)).kept hg2 (own_ne (hob1.alloc (.cells #[.int .i64 (k : Int), .int .i64 7, .string ⟨#[91]⟩] 35)) (hoa1.alloc (.cells #[.int .i64 (k : Int), .int .i64 7, .string ⟨#[91]⟩] 35)) (by decide))); (have hs2 : W1.heap.size + 1 ≤ w2.heap.size := by have := hg2.size; simpa using this); obtain ⟨A3, c3, rfl, -⟩ := Rd.of_own hown2) | (at_builtin; refine wpList_append_any _ rfl (.tmp 68) (.tmp 72) 33 rfl w1.heap.size 36 j0 _ 3 32 Tryd.underlying33 hj0 hy0 hy1 hy2 rfl (by decide) (.slice A2 k c2) k (c3s (wW ss zs k)) rfl (hob2.alloc _) (w2.heap.size + 1) (some ⟨w2.heap.size, 0, none⟩) 1 1 [.int .i64 (k : Int), .int .i64 7, .string ⟨#[91]⟩] rfl (by exact Rd.newAt _ _ (by simp) #[.int .i64 (k : Int), .int .i64 7, .string ⟨#[91]⟩] 36 1 3 rfl) (by simp [Value.oneCell']) (by simp only [maxLen]; omega) (by omega) (by simp; omega) ?_; intro v4 w4 hown4 hg4 _))
          have hoa4 := (hown2.alloc (.cells #[.int .i64 (k : Int), .int .i64 7, .string ⟨#[91]⟩] 36)).kept hg4 (own_ne (hown2.alloc (.cells #[.int .i64 (k : Int), .int .i64 7, .string ⟨#[91]⟩] 36)) (hob2.alloc (.cells #[.int .i64 (k : Int), .int .i64 7, .string ⟨#[91]⟩] 36)) (by decide))
          go_roundw
          case rel =>
            refine ⟨k + 1, by omega, by omega, by simp, ?_, ?_, ?_⟩
            · rw [wW_snoc, htx.out]
              exact hoa4
            · rw [wW_snoc, htx.out]
              exact hown4
            · exact (((hbl1.alloc (by omega) _).grown hg2 (by simp; omega) (fun g hg => (hoa1.lt g hg).1)).alloc (by omega) _).grown hg4 (by simp; omega) (fun g hg => (hob2.lt g hg).1)
          case measure => simp [intOf]; omega
        · by_cases h2 : z.toNat % 4 = 2
          · have htx : Hid (txtW ss zs k = [93]) := by
              show _ = _
              rw [txtW, hp'.out]
              simp [h2]
            have e1 : (((z.toNat : Int) % 4) == 1) = false := by simp; omega
            have e2 : (((z.toNat : Int) % 4) == 2) = true := by simp; omega
            clear h1 h2 q1 q2
            go_wp2_with (first | (at_builtin; refine wpList_append_any _ rfl (.tmp 62) (.tmp 66) 32 rfl w1.heap.size 35 i0 _ 3 32 Tryd.underlying32 hi0 hz0 hz1 hz2 rfl (by decide) (.slice A1 k c1) k (c3s (wW ss zs k)) rfl (hoa1.alloc _) (W1.heap.size + 1) (some ⟨W1.heap.size, 0, none⟩) 1 1 [.int .i64 (k : Int), .int .i64 7, .string ⟨#[93]⟩] rfl (by exact Rd.newAt _ _ (by simp) #[.int .i64 (k : Int), .int .i64 7, .string ⟨#[93]⟩] 35 1 3 rfl) (by simp [Value.oneCell']) (by simp only [maxLen]; omega) (by omega) (by simp; omega) ?_; intro v2 w2 hown2 hg2 _; (have hob2 := (hob1.alloc (.cells #[.int .i64 (k : Int), .int .i64 7, .string ⟨#[93]⟩] 35)).kept hg2 (own_ne (hob1.alloc (.cells #[.int .i64 (k : Int), .int .i64 7, .string ⟨#[93]⟩] 35)) (hoa1.alloc (.cells #[.int .i64 (k : Int), .int .i64 7, .string ⟨#[93]⟩] 35)) (by decide))); (have hs2 : W1.heap.size + 1 ≤ w2.heap.size := by have := hg2.size; simpa using this); obtain ⟨A3, c3, rfl, -⟩ := Rd.of_own hown2) | (at_builtin; refine wpList_append_any _ rfl (.tmp 68) (.tmp 72) 33 rfl w1.heap.size 36 j0 _ 3 32 Tryd.underlying33 hj0 hy0 hy1 hy2 rfl (by decide) (.slice A2 k c2) k (c3s (wW ss zs k)) rfl (hob2.alloc _) (w2.heap.size + 1) (some ⟨w2.heap.size, 0, none⟩) 1 1 [.int .i64 (k : Int), .int .i64 7, .string ⟨#[93]⟩] rfl (by exact Rd.newAt _ _ (by simp) #[.int .i64 (k : Int), .int .i64 7, .string ⟨#[93]⟩] 36 1 3 rfl) (by simp [Value.oneCell']) (by simp only [maxLen]; omega) (by omega) (by simp; omega) ?_; intro v4 w4 hown4 hg4 _))
            have hoa4 := (hown2.alloc (.cells #[.int .i64 (k : Int), .int .i64 7, .string ⟨#[93]⟩] 36)).kept hg4 (own_ne (hown2.alloc (.cells #[.int .i64 (k : Int), .int .i64 7, .string ⟨#[93]⟩] 36)) (hob2.alloc (.cells #[.int .i64 (k : Int), .int .i64 7, .string ⟨#[93]⟩] 36)) (by decide))
            go_roundw
            case rel =>
              refine ⟨k + 1, by omega, by omega, by simp, ?_, ?_, ?_⟩
              · rw [wW_snoc, htx.out]
                exact hoa4
              · rw [wW_snoc, htx.out]
                exact hown4
              · exact (((hbl1.alloc (by omega) _).grown hg2 (by simp; omega) (fun g hg => (hoa1.lt g hg).1)).alloc (by omega) _).grown hg4 (by simp; omega) (fun g hg => (hob2.lt g hg).1)
            case measure => simp [intOf]; omega
          · have htx : Hid (txtW ss zs k = s.take 20) := by
              show _ = _
              rw [txtW, hp'.out, hp.out]
              simp [h1, h2]
            have e1 : (((z.toNat : Int) % 4) == 1) = false := by simp; omega
            have e2 : (((z.toNat : Int) % 4) == 2) = false := by simp; omega
            clear h1 h2 q1 q2
            go_wp2_with (first | (at_builtin; refine wpList_append_any _ rfl (.tmp 62) (.tmp 66) 32 rfl w1.heap.size 35 i0 _ 3 32 Tryd.underlying32 hi0 hz0 hz1 hz2 rfl (by decide) (.slice A1 k c1) k (c3s (wW ss zs k)) rfl (hoa1.alloc _) (W1.heap.size + 1) (some ⟨W1.heap.size, 0, none⟩) 1 1 [.int .i64 (k : Int), .int .i64 7, .string ⟨(s.take 20).toArray⟩] rfl (by exact Rd.newAt _ _ (by simp) #[.int .i64 (k : Int), .int .i64 7, .string ⟨(s.take 20).toArray⟩] 35 1 3 rfl) (by simp [Value.oneCell']) (by simp only [maxLen]; omega) (by omega) (by simp; omega) ?_; intro v2 w2 hown2 hg2 _; (have hob2 := (hob1.alloc (.cells #[.int .i64 (k : Int), .int .i64 7, .string ⟨(s.take 20).toArray⟩] 35)).kept hg2 (own_ne (hob1.alloc (.cells #[.int .i64 (k : Int), .int .i64 7, .string ⟨(s.take 20).toArray⟩] 35)) (hoa1.alloc (.cells #[.int .i64 (k : Int), .int .i64 7, .string ⟨(s.take 20).toArray⟩] 35)) (by decide))); (have hs2 : W1.heap.size + 1 ≤ w2.heap.size := by have := hg2.size; simpa using this); obtain ⟨A3, c3, rfl, -⟩ := Rd.of_own hown2) | (at_builtin; refine wpList_append_any _ rfl (.tmp 68) (.tmp 72) 33 rfl w1.heap.size 36 j0 _ 3 32 Tryd.underlying33 hj0 hy0 hy1 hy2 rfl (by decide) (.slice A2 k c2) k (c3s (wW ss zs k)) rfl (hob2.alloc _) (w2.heap.size + 1) (some ⟨w2.heap.size, 0, none⟩) 1 1 [.int .i64 (k : Int), .int .i64 7, .string ⟨(s.take 20).toArray⟩] rfl (by exact Rd.newAt _ _ (by simp) #[.int .i64 (k : Int), .int .i64 7, .string ⟨(s.take 20).toArray⟩] 36 1 3 rfl) (by simp [Value.oneCell']) (by simp only [maxLen]; omega) (by omega) (by simp; omega) ?_; intro v4 w4 hown4 hg4 _))
            have hoa4 := (hown2.alloc (.cells #[.int .i64 (k : Int), .int .i64 7, .string ⟨(s.take 20).toArray⟩] 36)).kept hg4 (own_ne (hown2.alloc (.cells #[.int .i64 (k : Int), .int .i64 7, .string ⟨(s.take 20).toArray⟩] 36)) (hob2.alloc (.cells #[.int .i64 (k : Int), .int .i64 7, .string ⟨(s.take 20).toArray⟩] 36)) (by decide))
            go_roundw
            case rel =>
              refine ⟨k + 1, by omega, by omega, by simp, ?_, ?_, ?_⟩
              · rw [wW_snoc, htx.out]
                exact hoa4
              · rw [wW_snoc, htx.out]
                exact hown4
              · exact (((hbl1.alloc (by omega) _).grown hg2 (by simp; omega) (fun g hg => (hoa1.lt g hg).1)).alloc (by omega) _).grown hg4 (by simp; omega) (fun g hg => (hob2.lt g hg).1)
            case measure => simp [intOf]; omega
      · have htx : Hid (txtW ss zs k = s.take 20) := by
          show _ = _
          rw [txtW, List.getElem?_eq_none (by rw [hr'.lenY]; omega), hp.out]
          rfl
        clear q1
        go_wp2_with (first | (at_builtin; refine wpList_append_any _ rfl (.tmp 62) (.tmp 66) 32 rfl w1.heap.size 35 i0 _ 3 32 Tryd.underlying32 hi0 hz0 hz1 hz2 rfl (by decide) (.slice A1 k c1) k (c3s (wW ss zs k)) rfl (hoa1.alloc _) (W1.heap.size + 1) (some ⟨W1.heap.size, 0, none⟩) 1 1 [.int .i64 (k : Int), .int .i64 7, .string ⟨(s.take 20).toArray⟩] rfl (by exact Rd.newAt _ _ (by simp) #[.int .i64 (k : Int), .int .i64 7, .string ⟨(s.take 20).toArray⟩] 35 1 3 rfl) (by simp [Value.oneCell']) (by simp only [maxLen]; omega) (by omega) (by simp; omega) ?_; intro v2 w2 hown2 hg2 _; (have hob2 := (hob1.alloc (.cells #[.int .i64 (k : Int), .int .i64 7, .string ⟨(s.take 20).toArray⟩] 35)).kept hg2 (own_ne (hob1.alloc (.cells #[.int .i64 (k : Int), .int .i64 7, .string ⟨(s.take 20).toArray⟩] 35)) (hoa1.alloc (.cells #[.int .i64 (k : Int), .int .i64 7, .string ⟨(s.take 20).toArray⟩] 35)) (by decide))); (have hs2 : W1.heap.size + 1 ≤ w2.heap.size := by have := hg2.size; simpa using this); obtain ⟨A3, c3, rfl, -⟩ := Rd.of_own hown2) | (at_builtin; refine wpList_append_any _ rfl (.tmp 68) (.tmp 72) 33 rfl w1.heap.size 36 j0 _ 3 32 Tryd.underlying33 hj0 hy0 hy1 hy2 rfl (by decide) (.slice A2 k c2) k (c3s (wW ss zs k)) rfl (hob2.alloc _) (w2.heap.size + 1) (some ⟨w2.heap.size, 0, none⟩) 1 1 [.int .i64 (k : Int), .int .i64 7, .string ⟨(s.take 20).toArray⟩] rfl (by exact Rd.newAt _ _ (by simp) #[.int .i64 (k : Int), .int .i64 7, .string ⟨(s.take 20).toArray⟩] 36 1 3 rfl) (by simp [Value.oneCell']) (by simp only [maxLen]; omega) (by omega) (by simp; omega) ?_; intro v4 w4 hown4 hg4 _))
        have hoa4 := (hown2.alloc (.cells #[.int .i64 (k : Int), .int .i64 7, .string ⟨(s.take 20).toArray⟩] 36)).kept hg4 (own_ne (hown2.alloc (.cells #[.int .i64 (k : Int), .int .i64 7, .string ⟨(s.take 20).toArray⟩] 36)) (hob2.alloc (.cells #[.int .i64 (k : Int), .int .i64 7, .string ⟨(s.take 20).toArray⟩] 36)) (by decide))
        go_roundw
        case rel =>
          refine ⟨k + 1, by omega, by omega, by simp, ?_, ?_, ?_⟩
          · rw [wW_snoc, htx.out]
            exact hoa4
          · rw [wW_snoc, htx.out]
            exact hown4
          · exact (((hbl1.alloc (by omega) _).grown hg2 (by simp; omega) (fun g hg => (hoa1.lt g hg).1)).alloc (by omega) _).grown hg4 (by simp; omega) (fun g hg => (hob2.lt g hg).1)
        case measure => simp [intOf]; omega
    · have hway : ¬ k < n ∨ (k < n ∧ ¬ k < 60) := by omega
      have hwl := wW_len ss zs k
      have hbd := setsL_bound (wW ss zs k)
      obtain ⟨ws, hws⟩ : ∃ ws, wW ss zs k = ws := ⟨_, rfl⟩
      rw [hws] at hrdA hrdB hwl hbd
      clear hws hoa hob hP hQ hlt
      have hS := Lib.hid (sets_ok wr ws wr.heap.size A1 k c1 hrdA (Nat.le_refl _) (by omega))
      have hrdB2 := Lib.hid hrdB
      have Hwl := Lib.hid hwl
      have Hbd := Lib.hid hbd
      clear hrdA hrdB hwl hbd
      rcases hway with hway | ⟨hway, hway2⟩
      all_goals
        go_wp2_with fail
        refine hS.out.mono ?_
        rintro e w2 hpost
        unfold SetsPost at hpost
        cases hsl : setsL ws with
        | none =>
          rw [hsl] at hpost
          obtain ⟨rfl, hb2⟩ := hpost
          go_wp2_with fail
          refine (refSets_ok w2 ws wr.heap.size A2 k c2 (hrdB2.out.below hb2 (Nat.le_refl _)) hb2.size (by omega)).mono ?_
          rintro e w3 hpost
          unfold SetsPost at hpost
          rw [hsl] at hpost
          obtain ⟨rfl, hb3⟩ := hpost
          clear hsl
          have hsm := Lib.hid (same_ok w3 [] none none 0 0 (fun h => absurd h (by simp)) (fun h => absurd h (by simp)) (by simp) (fun i r hi => by simp at hi))
          go_wp2_with fail
          refine (show Calls Tryd.prog 13 _ _ _ from hsm.out).mono ?_
          rintro e w4 ⟨rfl, hb4⟩
          go_wp2_with fail
          go_ret
          exact ⟨rfl, btS (btS (btS (hs1.trans (hbl.mono hs1s)) hb2) hb3) hb4⟩
        | some rows =>
          rw [hsl] at hpost
          obtain ⟨v2, rfl, hret2⟩ := hpost
          obtain ⟨A3, c3, rfl, hat3, hb2⟩ := RowsAt.of hret2
          obtain ⟨hbd1, hbd2⟩ := Hbd.out rows hsl
          have hwl := Hwl.out
          go_wp2_with fail
          refine (refSets_ok w2 ws wr.heap.size A2 k c2 (hrdB2.out.below hb2 (Nat.le_refl _)) hb2.size (by omega)).mono ?_
          rintro e w3 hpost
          unfold SetsPost at hpost
          rw [hsl] at hpost
          obtain ⟨v3, rfl, hret3⟩ := hpost
          obtain ⟨A4, c4, rfl, hat4, hb3⟩ := RowsAt.of hret3
          have hsm := Lib.hid (same_ok w3 rows A3 A4 c3 c4 (hat3.below hb3) hat4 (by omega) (fun i r hi => by have := hbd2 i r hi; omega))
          clear hsl hret2 hret3 hbd2 hwl hat3 hat4
          go_wp2_with fail
          refine hsm.out.mono ?_
          rintro e w4 ⟨rfl, hb4⟩
          go_wp2_with fail
          go_ret
          exact ⟨rfl, btS (btS (btS (hs1.trans (hbl.mono hs1s)) hb2) hb3) hb4⟩
end Go.Proofs.YtccnogdfnikioaaDoor
