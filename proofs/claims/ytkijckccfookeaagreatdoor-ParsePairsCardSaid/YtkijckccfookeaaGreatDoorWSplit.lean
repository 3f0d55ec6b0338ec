/- The contract of words.split. -/
import Derived.Test.YtkijckccfookeaaGreatDoorM34
import Derived.Test.YtkijckccfookeaaGreatDoorM04
import Derived.WalkSmall
import Derived.Deep.LoopGhost
import Derived.WalkMore
namespace Go.Proofs.YtkijckccfookeaaGreatDoor
open Go.RowKit

def frI (σ : St) : Int := if σ.cur = [] then -1 else σ.fr
theorem frI_no {σ : St} (h : σ.cur = []) : frI σ = -1 := by rw [frI, if_pos h]
theorem frI_yes {σ : St} (h : σ.cur ≠ []) : frI σ = (σ.fr : Int) := by rw [frI, if_neg h]
theorem num_append (n : Nat) (a b : List (Nat × B)) : num n (a ++ b) = num n a ++ num n b := by simp [num]
theorem wAll_no (n : Nat) {σ : St} (h : σ.cur = []) : num n σ.all = num n σ.told := by rw [St.all, St.pend, if_pos h, List.append_nil]
theorem all_yes (n : Nat) (s : B) (k : Nat) (h : (run (s.take k)).cur ≠ []) : num n (run (s.take k)).all = num n (run (s.take k)).told ++ [((n : Int), ((run (s.take k)).fr : Int), (s.take k).drop (run (s.take k)).fr)] := by
  rw [St.all, St.pend, if_neg h, num_append, (run_cur _ h).2]
  rfl
theorem fr_le (s : B) (k : Nat) (hk : k ≤ s.length) (h : (run (s.take k)).cur ≠ []) : (run (s.take k)).fr ≤ k := by
  have := (run_cur _ h).1
  rw [List.length_take] at this
  omega
theorem run_blank (s : B) (k : Nat) (c : UInt8) (h : s[k]? = some c) (hb : blank c = true) : (run (s.take (k + 1))).told = (run (s.take k)).all ∧ frI (run (s.take (k + 1))) = -1 := by
  refine ⟨?_, frI_no (cur_blank s k c h hb)⟩
  rw [take_snoc s k c h, run_snoc, step, if_pos hb]
theorem run_seg (s : B) (k d : Nat) (hd : 1 ≤ d) (hk : k + d ≤ s.length) (hn : ∀ j c, k ≤ j → j < k + d → s[j]? = some c → blank c = false) :
    (run (s.take (k + d))).told = (run (s.take k)).told ∧ (run (s.take (k + d))).cur ≠ [] ∧ (run (s.take (k + d))).fr = if (run (s.take k)).cur = [] then k else (run (s.take k)).fr := by
  obtain ⟨d, rfl⟩ : ∃ e, d = e + 1 := ⟨d - 1, by omega⟩
  clear hd
  induction d with
  | zero =>
    have hg : s[k]? = some (s[k]'(by omega)) := List.getElem?_eq_getElem (by omega)
    have hb := hn k _ (Nat.le_refl _) (by omega) hg
    have ha := run_at (s.take k)
    rw [List.length_take, Nat.min_eq_left (by omega)] at ha
    rw [Nat.zero_add, take_snoc s k _ hg, run_snoc, step, if_neg (by simp [hb])]
    simp [ha]
  | succ d ih =>
    obtain ⟨i1, i2, i3⟩ := ih (by omega) (fun j c h1 h2 h3 => hn j c h1 (by omega) h3)
    have hg : s[k + (d + 1)]? = some (s[k + (d + 1)]'(by omega)) := List.getElem?_eq_getElem (by omega)
    have hb := hn (k + (d + 1)) _ (by omega) (by omega) hg
    rw [← Nat.add_assoc k (d + 1) 1, take_snoc s (k + (d + 1)) _ hg, run_snoc, step, if_neg (by simp [hb])]
    refine ⟨i1, by simp, ?_⟩
    rw [if_neg i2]
    exact i3
theorem end_any (W : World) (h : Nat) (s : B) (n k : Nat) (hb : BoxesW h s n (frI (run (s.take k))) (num n (run (s.take k)).told) W) (hk : k ≤ s.length) (hs : s.length ≤ 1000000) :
    Calls Tryz.prog 120 #[.int .i64 k, .pointer (some ⟨h + 1 + 1 + 1, 0, none⟩), .pointer (some ⟨h + 1 + 1, 0, none⟩), .pointer (some ⟨h + 1, 0, none⟩), .pointer (some ⟨h, 0, none⟩)] W (EndPost h s n (num n (run (s.take k)).all) W) := by
  by_cases hc : (run (s.take k)).cur = []
  · rw [frI_no hc] at hb
    rw [wAll_no n hc]
    exact wEnd_no W h s n k _ hb
  · rw [frI_yes hc] at hb
    rw [all_yes n s k hc]
    refine wEnd_yes W h s n _ k _ hb (fr_le s k hk hc) hk hs ?_
    have h1 := run_told_len (s.take k)
    rw [List.length_take, St.all, List.length_append] at h1
    rw [num_len]
    omega
theorem own_iterAt {w : World} {base : Nat} {e : TypeId} {size : Nat} {v : Value} {n : Nat} {xs : List Value} (h : w.ownsRow base e size v n xs) {k : Nat} {s : ByteArray} {p : Nat} (hk : w.heap[k]? = some (.stringIter s p)) (q : Nat) : (w.iterAt k s q).ownsRow base e size v n xs := by
  refine h.kept (row := some k) ⟨rfl, rfl, rfl, by rw [Lib.iterAt_size]; exact Nat.le_refl _, fun i _ hne => Lib.iterAt_other w k i s q (fun e => hne (by rw [e]))⟩ ?_
  cases hv : v.ownBlock with
  | none => exact .inl rfl
  | some g =>
    refine .inr ?_
    intro e
    injection e with e
    subst e
    obtain ⟨cur, hb⟩ := own_bk h g hv
    have : w.heap[g]? = _ := hb
    rw [hk] at this
    cases this
theorem Bk.iterAt {w : World} {g : Nat} {t : TypeId} {cs : Array Value} (h : Bk w g t cs) {k : Nat} {s : ByteArray} {p : Nat} (hk : w.heap[k]? = some (.stringIter s p)) (q : Nat) : Bk (w.iterAt k s q) g t cs := by
  refine (Lib.iterAt_other w k g s q ?_).trans h
  rintro rfl
  have : w.heap[g]? = _ := h
  rw [hk] at this
  cases this
theorem BoxesW.iterAt {h : Nat} {s : B} {n : Nat} {f : Int} {ws : List P3} {W : World} (hb : BoxesW h s n f ws W) {k : Nat} {s' : ByteArray} {p : Nat} (hk : W.heap[k]? = some (.stringIter s' p)) (q : Nat) : BoxesW h s n f ws (W.iterAt k s' q) := by
  obtain ⟨h1, h2, h3, A, c, h4, h5⟩ := hb
  exact ⟨h1.iterAt hk q, h2.iterAt hk q, h3.iterAt hk q, A, c, h4.iterAt hk q, own_iterAt h5 hk q⟩
def SplitInv (w : World) (s : B) (n k : Nat) (wr : World) : Prop :=
  wr.heap[w.heap.size + 1 + 1 + 1 + 1]? = some (.stringIter ⟨s.toArray⟩ k) ∧ k ≤ s.length ∧ (∀ j c, j < k → s[j]? = some c → c ≠ 35) ∧ BoxesW w.heap.size s n (frI (run (s.take k))) (num n (run (s.take k)).told) wr ∧ Below w.heap.size w wr
def SplitPost (w : World) (s : B) (n : Nat) (e : Ending) (w' : World) : Prop :=
  ∃ v, e = .returned v ∧ w'.ownsRow w.heap.size 124 3 v (one s).length (c3s (num n (one s))) ∧ Below w.heap.size w w'
theorem split_fin (w W' : World) (s : B) (n k m c : Nat) (A : Option Addr) (hcode : code s = s.take k) (hm : (num n (run (s.take k)).all).length = m) (h5 : W'.ownsRow (w.heap.size + 1 + 1 + 1 + 1) 124 3 (.slice A m c) m (c3s (num n (run (s.take k)).all))) (hbl : Below w.heap.size w W') : SplitPost w s n (.returned (.slice A m c)) W' := by
  refine ⟨_, rfl, ?_, hbl⟩
  rw [num_len] at hm
  rw [one, hcode, hm]
  exact ownsRow_base h5 (by omega)
theorem get_list (s : B) (j : Nat) (c : UInt8) (h : s[j]? = some c) : (ByteArray.mk s.toArray).get! j = c := by
  obtain ⟨h1, h2⟩ := List.getElem?_eq_some_iff.1 h
  simp [ByteArray.get!, h1, h2]
theorem decode_other (s : B) (k : Nat) (c : UInt8) (hc : s[k]? = some c) (h35 : c ≠ 35) (hbk : blank c = false) :
    ∃ r d : Nat, Utf8.decode ⟨s.toArray⟩ k = (r, d) ∧ ((r : Int) == 35) = false ∧ ((r : Int) == 32) = false ∧ ((r : Int) == 9) = false ∧ r ≤ 2147483647 ∧ 1 ≤ d ∧ k + d ≤ s.length ∧ ∀ j c, k ≤ j → j < k + d → s[j]? = some c → blank c = false ∧ c ≠ 35 := by
  have hlt : k < s.length := (List.getElem?_eq_some_iff.1 hc).1
  have hb := byte_at s k c hc hlt
  have hle := decode_le ⟨s.toArray⟩ k
  have n35 : c.toNat ≠ 35 := fun h => h35 (UInt8.toNat_inj.1 h)
  have nbk : c.toNat ≠ 32 ∧ c.toNat ≠ 9 := by
    simp only [blank, Bool.or_eq_false_iff, beq_eq_false_iff_ne, ne_eq] at hbk
    exact ⟨fun h => hbk.1 (UInt8.toNat_inj.1 h), fun h => hbk.2 (UInt8.toNat_inj.1 h)⟩
  by_cases ha : c.toNat < 128
  · have hd := decode_ascii ⟨s.toArray⟩ k hlt (by rw [hb]; exact ha)
    rw [hb] at hd
    refine ⟨_, _, hd, ?_, ?_, ?_, by omega, by omega, by omega, fun j c' h1 h2 h3 => ?_⟩
    · simp; omega
    · simp; omega
    · simp; omega
    · obtain rfl : j = k := by omega
      rw [hc] at h3
      cases h3
      exact ⟨hbk, h35⟩
  · obtain ⟨hd1, hd2⟩ := decode_high ⟨s.toArray⟩ k hlt (by rw [hb]; omega)
    obtain ⟨hd3, hd4⟩ := decode_wide ⟨s.toArray⟩ k hlt
    generalize Utf8.decode ⟨s.toArray⟩ k = D at *
    obtain ⟨r, d⟩ := D
    dsimp only at hd1 hd2 hd3 hd4 hle
    refine ⟨r, d, rfl, ?_, ?_, ?_, hle, hd2, hd3, fun j c' h1 h2 h3 => ?_⟩
    · simp; omega
    · simp; omega
    · simp; omega
    · have h128 : 128 ≤ c'.toNat := by
        by_cases hjk : j = k
        · subst hjk
          rw [hc] at h3
          cases h3
          omega
        · have := hd4 (j - k) (by omega) (by omega)
          rwa [show k + (j - k) = j by omega, get_list s j c' h3] at this
      refine ⟨?_, fun h => by subst h; revert h128; decide⟩
      simp only [blank, Bool.or_eq_false_iff, beq_eq_false_iff_ne, ne_eq]
      exact ⟨fun h => by subst h; revert h128; decide, fun h => by subst h; revert h128; decide⟩
set_option maxRecDepth 100000 in
set_option maxHeartbeats 4000000 in
theorem split_ok (w : World) (s : B) (n : Nat) (hs : s.length ≤ 1000000) : Calls Tryz.prog 71 #[.string ⟨s.toArray⟩, .int .i64 n] w (SplitPost w s n) := by
  obtain ⟨W0, hW0⟩ : ∃ W0, ((((w.alloc (.cells #[.string ⟨s.toArray⟩] 9)).alloc (.cells #[.int .i64 n] 3)).alloc (.cells #[.slice none 0 0] 119)).alloc (.cells #[.int .i64 (-1)] 3)).iter ⟨s.toArray⟩ 0 = W0 := ⟨_, rfl⟩
  have hinv0 : SplitInv w s n 0 W0 := by
    rw [← hW0]
    refine ⟨?_, by omega, by omega, ?_, ?_⟩
    · have := heap_alloc_new ((((w.alloc (.cells #[.string ⟨s.toArray⟩] 9)).alloc (.cells #[.int .i64 n] 3)).alloc (.cells #[.slice none 0 0] 119)).alloc (.cells #[.int .i64 (-1)] 3)) (.stringIter ⟨s.toArray⟩ 0)
      simp only [World.size_alloc] at this
      exact this
    · refine ⟨?_, ?_, ?_, none, 0, ?_, ?_⟩
      · exact ((((Bk.new w 9 _).alloc _).alloc _).alloc _).alloc _
      · have := (((Bk.new (w.alloc (.cells #[.string ⟨s.toArray⟩] 9)) 3 #[.int .i64 n]).alloc (.cells #[.slice none 0 0] 119)).alloc (.cells #[.int .i64 (-1)] 3)).alloc (.stringIter ⟨s.toArray⟩ 0)
        simp only [World.size_alloc] at this
        exact this
      · have := (Bk.new (((w.alloc (.cells #[.string ⟨s.toArray⟩] 9)).alloc (.cells #[.int .i64 n] 3)).alloc (.cells #[.slice none 0 0] 119)) 3 #[.int .i64 (-1)]).alloc (.stringIter ⟨s.toArray⟩ 0)
        simp only [World.size_alloc] at this
        exact this
      · have := ((Bk.new ((w.alloc (.cells #[.string ⟨s.toArray⟩] 9)).alloc (.cells #[.int .i64 n] 3)) 119 #[.slice none 0 0]).alloc (.cells #[.int .i64 (-1)] 3)).alloc (.stringIter ⟨s.toArray⟩ 0)
        simp only [World.size_alloc] at this
        exact this
      · simp only [List.take_zero, run, st0, List.foldl_nil, num, List.map_nil, List.length_nil, c3s, List.flatMap_nil]
        exact ⟨rfl, .inl ⟨rfl, rfl⟩⟩
    · exact (((((Below.refl _ w).alloc (Nat.le_refl _) _).alloc (by simp) _).alloc (by simp; omega) _).alloc (by simp; omega) _).alloc (by simp; omega) _
  have HW := Lib.hid hW0
  clear hW0
  go_enter Tryz.func71, Tryz.ntmps71
  go_wp2
  go_step3
  go_wp2
  go_step3
  go_wp2
  rw [HW.out]
  clear HW
  go_loopw [8] (fun l wr => l = .int .i64 s.length ∧ ∃ k, SplitInv w s n k wr) (fun _ wr => s.length - wr.iterPos (w.heap.size + 1 + 1 + 1 + 1))
  case atStart => exact ⟨rfl, 0, hinv0⟩
  case round =>
    obtain ⟨rfl, k, hit, hk, hno, hbx, hbl⟩ := hrel
    clear hinv0
    have hpos := iterPos_of hit
    by_cases hlt : k < s.length
    · obtain ⟨c, hc⟩ : ∃ c, s[k]? = some c := ⟨_, List.getElem?_eq_getElem hlt⟩
      have hb := byte_at s k c hc hlt
      by_cases h35 : c = 35
      · subst h35
        have hcode := Lib.hid (code_upto s k hk hno (fun c' hc' => by rw [hc] at hc'; cases hc'; rfl))
        have hnx : ∀ ty, (Instr.next (.pointer (some ⟨w.heap.size + 1 + 1 + 1 + 1, 0, none⟩)) true ty).run Tryz.prog wr = _ := fun ty => Lib.run_next_ascii_at wr _ ⟨s.toArray⟩ k ty hit hlt (by rw [hb]; decide)
        rw [hb] at hnx
        have hbx1 := hbx.iterAt hit (k + 1)
        have hbl1 := Lib.below_iterAt hbl (k := w.heap.size + 1 + 1 + 1 + 1) (by omega) ⟨s.toArray⟩ (k + 1)
        clear hno hc hb hpos
        generalize wr.iterAt (w.heap.size + 1 + 1 + 1 + 1) ⟨s.toArray⟩ (k + 1) = W1 at *
        go_wp2_with (go_at_call 120; refine (end_any _ _ s n k hbx1 hk hs).mono ?_; rintro e W2 ⟨rfl, hbx2, hbl2, hko2⟩; obtain ⟨g1, g2, g3, A, c1, g4, g5⟩ := hbx2; have x4 : W2.cell? ⟨w.heap.size + 1 + 1, 0, none⟩ = some (.slice A (num n (run (s.take k)).all).length c1) := g4.cell 0)
        try rw [Exit.noGoto_ret]
        go_ret
        exact split_fin w W2 s n k _ c1 A hcode.out rfl g5 (hbl1.trans hbl2)
      · by_cases hbk : blank c = true
        · have hinv : Hid (∀ W2, W2.heap[w.heap.size + 1 + 1 + 1 + 1]? = some (.stringIter ⟨s.toArray⟩ (k + 1)) → BoxesW w.heap.size s n (-1) (num n (run (s.take k)).all) W2 → Below w.heap.size w W2 → SplitInv w s n (k + 1) W2) := by
            intro W2 h1 h2 h3
            obtain ⟨r1, r2⟩ := run_blank s k c hc hbk
            refine ⟨h1, by omega, fun j d hj hd => ?_, by rw [r1, r2]; exact h2, h3⟩
            by_cases hjk : j = k
            · subst hjk
              rw [hc] at hd
              cases hd
              exact h35
            · exact hno j d (by omega) hd
          have hbk2 : c = 32 ∨ c = 9 := by simpa [blank] using hbk
          have hnx : ∀ ty, (Instr.next (.pointer (some ⟨w.heap.size + 1 + 1 + 1 + 1, 0, none⟩)) true ty).run Tryz.prog wr = _ := fun ty => Lib.run_next_ascii_at wr _ ⟨s.toArray⟩ k ty hit hlt (by rw [hb]; rcases hbk2 with rfl | rfl <;> decide)
          rw [hb] at hnx
          have hbx1 := hbx.iterAt hit (k + 1)
          have hbl1 := Lib.below_iterAt hbl (k := w.heap.size + 1 + 1 + 1 + 1) (by omega) ⟨s.toArray⟩ (k + 1)
          have hit1 := Lib.hid (Lib.iterAt_heap wr _ ⟨s.toArray⟩ k (k + 1) hit)
          have Hpos := Lib.hid hpos
          clear hno hc hb hpos hbk h35 hit
          generalize wr.iterAt (w.heap.size + 1 + 1 + 1 + 1) ⟨s.toArray⟩ (k + 1) = W1 at *
          rcases hbk2 with rfl | rfl
          all_goals
            go_wp2_with (go_at_call 120; refine (end_any _ _ s n k hbx1 hk hs).mono ?_; rintro e W2 ⟨rfl, hbx2, hbl2, hko2⟩)
            go_roundw
            case rel => exact ⟨rfl, k + 1, hinv.out W2 (hko2.same _ _ hit1.out rfl) hbx2 (hbl1.trans hbl2)⟩
            case measure =>
              have h1 := iterPos_of (hko2.same _ _ hit1.out rfl)
              rw [h1, Hpos.out]
              omega
        · have hd1 : ∃ r d : Nat, Utf8.decode ⟨s.toArray⟩ k = (r, d) ∧ ((r : Int) == 35) = false ∧ ((r : Int) == 32) = false ∧ ((r : Int) == 9) = false ∧ r ≤ 2147483647 ∧ 1 ≤ d ∧ k + d ≤ s.length ∧ ∀ j c, k ≤ j → j < k + d → s[j]? = some c → blank c = false ∧ c ≠ 35 := decode_other s k c hc h35 (by simpa using hbk)
          obtain ⟨r, d, hdec, hr1, hr2, hr3, hr4, hd1, hkd, hseg⟩ := hd1
          obtain ⟨t1, t2, t3⟩ := run_seg s k d hd1 hkd (fun j c h1 h2 h3 => (hseg j c h1 h2 h3).1)
          have hnx : ∀ ty, (Instr.next (.pointer (some ⟨w.heap.size + 1 + 1 + 1 + 1, 0, none⟩)) true ty).run Tryz.prog wr = _ := fun ty => Lib.run_next_any_at wr _ ⟨s.toArray⟩ k ty hit hlt
          rw [hdec] at hnx
          have hinv : Hid (∀ W2, W2.heap[w.heap.size + 1 + 1 + 1 + 1]? = some (.stringIter ⟨s.toArray⟩ (k + d)) → BoxesW w.heap.size s n (if (run (s.take k)).cur = [] then (k : Int) else ((run (s.take k)).fr : Int)) (num n (run (s.take k)).told) W2 → Below w.heap.size w W2 → SplitInv w s n (k + d) W2) := by
            intro W2 h1 h2 h3
            refine ⟨h1, by omega, fun j e hj he => ?_, ?_, h3⟩
            · by_cases hjk : j < k
              · exact hno j e hjk he
              · exact (hseg j e (by omega) hj he).2
            · rw [frI_yes t2, t1, t3]
              by_cases hq : (run (s.take k)).cur = []
              · simpa [hq] using h2
              · simpa [hq] using h2
          have hbx1 := hbx.iterAt hit (k + d)
          have hbl1 := Lib.below_iterAt hbl (k := w.heap.size + 1 + 1 + 1 + 1) (by omega) ⟨s.toArray⟩ (k + d)
          have hit1 := Lib.hid (Lib.iterAt_heap wr _ ⟨s.toArray⟩ k (k + d) hit)
          have Hpos := Lib.hid hpos
          clear hno hc hb hpos hbk h35 hit hdec hseg t1 t2 t3 hbx hbl
          simp only at hnx
          generalize wr.iterAt (w.heap.size + 1 + 1 + 1 + 1) ⟨s.toArray⟩ (k + d) = W1 at *
          by_cases hq : (run (s.take k)).cur = []
          · rw [frI_no hq] at hbx1
            rw [if_pos hq] at hinv
            obtain ⟨g1, g2, g3, A, c1, g4, g5⟩ := hbx1
            have x3 : W1.cell? ⟨w.heap.size + 1 + 1 + 1, 0, none⟩ = some (.int .i64 (-1)) := g3.cell 0
            have y3 := g3.frozen 0
            have Hq := Lib.hid hq
            clear hq
            have hrel1 := Lib.hid (hinv.out (W1.setCell ⟨w.heap.size + 1 + 1 + 1, 0, none⟩ (.int .i64 k)) ((KeepsOthers.setCell _ _ _).same _ _ hit1.out rfl) ⟨g1.far (by simp; omega) _, g2.far (by simp) _, g3.set 0 _, A, c1, g4.far (by simp) _, ownsRow_setCell_below g5 (by simp) _⟩ (hbl1.setCell (by simp; omega) _))
            have hm1 := Lib.hid (iterPos_of ((KeepsOthers.setCell W1 ⟨w.heap.size + 1 + 1 + 1, 0, none⟩ (.int .i64 k)).same _ _ hit1.out rfl))
            clear g1 g2 g3 g4 g5 hinv hbl1
            go_wp2
            go_roundw
            case rel => exact ⟨rfl, k + d, hrel1.out⟩
            case measure =>
              rw [hm1.out, Hpos.out]
              omega
          · rw [frI_yes hq] at hbx1
            rw [if_neg hq] at hinv
            have hrel1 := Lib.hid (hinv.out W1 hit1.out hbx1 hbl1)
            obtain ⟨g1, g2, g3, A, c1, g4, g5⟩ := hbx1
            have x3 : W1.cell? ⟨w.heap.size + 1 + 1 + 1, 0, none⟩ = some (.int .i64 ((run (s.take k)).fr : Int)) := g3.cell 0
            clear hq g1 g2 g3 g4 g5 hinv hbl1
            have hm1 := Lib.hid (iterPos_of hit1.out)
            go_wp2
            go_roundw
            case rel => exact ⟨rfl, k + d, hrel1.out⟩
            case measure =>
              rw [hm1.out, Hpos.out]
              omega
    · obtain rfl : k = s.length := by omega
      have hcode := Lib.hid (code_upto s s.length hk hno (fun c' hc' => by rw [List.getElem?_eq_none (Nat.le_refl _)] at hc'; cases hc'))
      have hnx : ∀ ty, (Instr.next (.pointer (some ⟨w.heap.size + 1 + 1 + 1 + 1, 0, none⟩)) true ty).run Tryz.prog wr = _ := fun ty => Lib.run_next_end_at wr _ ⟨s.toArray⟩ s.length ty hit hlt
      clear hno hpos hit
      go_wp2_with (go_at_call 120; refine (end_any _ _ s n s.length hbx hk hs).mono ?_; rintro e W2 ⟨rfl, hbx2, hbl2, hko2⟩; obtain ⟨g1, g2, g3, A, c1, g4, g5⟩ := hbx2; have x4 : W2.cell? ⟨w.heap.size + 1 + 1, 0, none⟩ = some (.slice A (num n (run (s.take s.length)).all).length c1) := g4.cell 0)
      try rw [Exit.noGoto_ret]
      go_ret
      refine split_fin w W2 s n s.length _ c1 A hcode.out (by rw [List.take_length]) ?_ (hbl.trans hbl2)
      rw [List.take_length] at g5 ⊢
      exact g5
end Go.Proofs.YtkijckccfookeaaGreatDoor
