/- The contract of fleuronref05.one. -/
import Derived.Test.YtccnogdfnikioaaDoorRefName
import Derived.Test.YtccnogdfnikioaaDoorPureOne
import Derived.Test.YtccnogdfnikioaaDoorMem2
namespace Go.Proofs.YtccnogdfnikioaaDoor
open Go.RowKit

theorem info36 : (Tryd.prog.info? 36).map (fun i => (i.zero, i.size, i.bytes)) = some (some (.agg #[.int .i64 0, .int .i64 0, .string ⟨#[]⟩]), 3, 32) := by kernel_rfl

theorem doneL_len (c : B) (i : Nat) (h : i ≤ c.length) : (doneL c i).length ≤ i := by
  induction i with
  | zero => simp [doneL_zero]
  | succ i ih =>
    have hi := ih (by omega)
    have hg : c[i]? = some (c[i]'(by omega)) := List.getElem?_eq_getElem (by omega)
    cases hb : blank (c[i]'(by omega)) with
    | true => rw [doneL_blank c i _ hg hb]; omega
    | false =>
      by_cases hc : (run (c.take i)).cur = []
      · rw [doneL_new c i _ hg hb hc, List.length_append]; simp; omega
      · rw [doneL_in c i _ hg hb hc]; omega
theorem num_app (n : Nat) (a : List (Nat × B)) (i : Nat) (t : B) : c3s (num n (a ++ [(i, t)])) = c3s (num n a) ++ [.int .i64 n, .int .i64 i, .string ⟨t.toArray⟩] := by
  simp [num, c3s, c3]

set_option maxRecDepth 100000 in
set_option maxHeartbeats 4000000 in
theorem refOne_ok (w : World) (s : B) (ln : Nat) (hs : s.length ≤ 100000) (hln : ln ≤ 1000000) : Calls Tryd.prog 29 #[.string ⟨s.toArray⟩, .int .i64 ln] w fun e w' =>
    ∃ v, e = .returned v ∧ w'.ownsRow w.heap.size 36 3 v (one s).length (c3s (num ln (one s))) ∧ Below w.heap.size w w' := by
  obtain ⟨i0, hi0, hz0, hz1, hz2⟩ := info_parts info36
  have hP : (w.alloc (.cells #[] 36)).ownsRow w.heap.size 36 3 (.slice (some ⟨w.heap.size, 0, none⟩) 0 0) 0 [] := World.ownsRow_made w #[] 0 (Nat.le_refl _) (by simp [maxLen]) rfl
  go_enter Tryd.func29, Tryd.ntmps29
  go_wp2
  go_loop [5] (fun i => ∃ k : Nat, k ≤ s.length ∧ i = .int .i64 k ∧ ∀ j c, j < k → s[j]? = some c → c ≠ 35) (fun i => s.length - (intOf i).toNat)
  case atStart => exact ⟨0, by omega, rfl, by omega⟩
  case round =>
    obtain ⟨k, hk, rfl, hall⟩ := hrel
    by_cases hgo : ∃ c, s[k]? = some c ∧ c ≠ 35
    · obtain ⟨c, hc, h35⟩ := hgo
      have hlt : k < s.length := (List.getElem?_eq_some_iff.1 hc).1
      have hb := byte_at s k c hc hlt
      have h35' : ((c.toNat : Int) != 35) = true := by
        simp
        intro h
        exact h35 (UInt8.toNat_inj.1 (by show c.toNat = 35; omega))
      have hend : Hid ((∃ k' : Nat, k' ≤ s.length ∧ Value.int .i64 ((k : Int) + 1) = .int .i64 k' ∧ ∀ j c, j < k' → s[j]? = some c → c ≠ 35) ∧ s.length - (intOf (.int .i64 ((k : Int) + 1))).toNat < s.length - (intOf (.int .i64 k)).toNat) := by
        refine ⟨⟨k + 1, by omega, by simp, fun j d hj hd => ?_⟩, by simp [intOf]; omega⟩
        by_cases hjk : j = k
        · subst hjk
          rw [hc] at hd
          cases hd
          exact h35
        · exact hall j d (by omega) hd
      clear hall hc
      go_wp2
      exact hend.out
    · have hcode : code s = s.take k := code_upto s k hk hall (fun c hc => by
        by_cases h : c = 35
        · exact h
        · exact absurd ⟨c, hc, h⟩ hgo)
      have Hcode := Lib.hid hcode
      have hone : Hid (one s = doneL (s.take k) k) := by
        show _ = _
        have := doneL_end (s.take k)
        rw [List.length_take, Nat.min_eq_left hk] at this
        rw [one, hcode, this]
      have hway : ¬ k < s.length ∨ ∃ c, s[k]? = some c ∧ c = 35 := by
        by_cases hlt : k < s.length
        · right
          refine ⟨_, List.getElem?_eq_getElem hlt, ?_⟩
          by_cases h : s[k] = 35
          · exact h
          · exact absurd ⟨_, List.getElem?_eq_getElem hlt, h⟩ hgo
        · exact .inl hlt
      clear hall hgo hcode
      obtain ⟨cc, hcc⟩ : ∃ cc, s.take k = cc := ⟨_, rfl⟩
      have hcl : cc.length = k := by rw [← hcc, List.length_take]; omega
      have hget : Hid (∀ m, m < k → ∃ b, cc[m]? = some b ∧ ∀ h, (ByteArray.mk s.toArray)[m]'h = b) := by
        intro m hm
        have h1 : s[m]? = some (s[m]'(by omega)) := List.getElem?_eq_getElem (by omega)
        have h2 : cc[m]? = s[m]? := by rw [← hcc, List.getElem?_take, if_pos hm]
        exact ⟨_, h2.trans h1, fun h => byte_at s m _ h1 h⟩
      have hcut : Hid (∀ a b, b ≤ k → (s.take b).drop a = (cc.take b).drop a) := by
        intro a b hb
        rw [← hcc, List.take_take, Nat.min_eq_left hb]
      rw [hcc] at hone
      clear hcc Hcode
      rcases hway with hlt | ⟨c, hc, rfl⟩
      · go_wp2
        clear hlt
        go_loopw [6, 7] (fun v i wr => ∃ m : Nat, m ≤ k ∧ i = .int .i64 m ∧ wr.ownsRow w.heap.size 36 3 v (doneL cc m).length (c3s (num ln (doneL cc m))) ∧ Below w.heap.size w wr) (fun _ i _ => k - (intOf i).toNat)
        case atStart => exact ⟨0, by omega, rfl, by rw [doneL_zero]; exact hP, (Below.refl _ _).alloc (Nat.le_refl _) _⟩
        case round =>
          obtain ⟨m, hm, rfl, how, hbl⟩ := hrel
          obtain ⟨A1, c1, rfl, -⟩ := Rd.of_own how
          by_cases hmk : m < k
          · obtain ⟨b, hcb, hb⟩ := hget.out m hmk
            have Hcb := Lib.hid hcb
            clear hcb
            have hms : m < s.length := by omega
            cases hbl0 : blank b with
            | true =>
              have hst := Lib.hid (doneL_blank cc m b Hcb.out hbl0)
              go_wp2_with (go_at_call 35; refine (blank_ok _ _).mono ?_; rintro e w' ⟨rfl, rfl⟩)
              go_roundw
              case rel => exact ⟨m + 1, by omega, by simp, by rw [hst.out]; exact how, hbl⟩
              case measure => simp [intOf]; omega
            | false =>
              by_cases hin : ∃ m', m = m' + 1 ∧ ∃ b2, cc[m']? = some b2 ∧ blank b2 = false
              · obtain ⟨m', rfl, b2, hc2, hbl2⟩ := hin
                have hst := Lib.hid (doneL_in cc (m' + 1) b Hcb.out hbl0 (cur_in cc m' b2 hc2 hbl2))
                obtain ⟨b3, hc3, hb3⟩ := hget.out m' (by omega)
                rw [hc2] at hc3
                cases hc3
                have hms2 : m' < s.length := by omega
                clear hc2
                go_wp2_with (go_at_call 35; refine (blank_ok _ _).mono ?_; rintro e w' ⟨rfl, rfl⟩)
                go_roundw
                case rel => exact ⟨m' + 1 + 1, by omega, by simp, by rw [hst.out]; exact how, hbl⟩
                case measure => simp [intOf]; omega
              · have hcur : (run (cc.take m)).cur = [] := by
                  cases m with
                  | zero => exact cur_zero cc
                  | succ m' =>
                    obtain ⟨b2, hc2, -⟩ := hget.out m' (by omega)
                    rw [cur_iff cc m' b2 hc2]
                    cases hb2 : blank b2 with
                    | true => rfl
                    | false => exact absurd ⟨m', rfl, b2, hc2, hb2⟩ hin
                have hst := Lib.hid (doneL_new cc m b Hcb.out hbl0 hcur)
                have hpre : m = 0 ∨ ∃ m', m = m' + 1 ∧ ∃ b2, cc[m']? = some b2 ∧ blank b2 = true := by
                  cases m with
                  | zero => exact .inl rfl
                  | succ m' =>
                    obtain ⟨b2, hc2, -⟩ := hget.out m' (by omega)
                    exact .inr ⟨m', rfl, b2, hc2, (cur_iff cc m' b2 hc2).1 hcur⟩
                clear hin hcur
                obtain ⟨W1, hW1⟩ : ∃ W1, W1 = wr := ⟨_, rfl⟩
                subst hW1
                rcases hpre with h0 | ⟨m', h0, b2, hc2, hbl2⟩
                · subst h0
                  go_wp2_with (go_at_call 35; refine (blank_ok _ _).mono ?_; rintro e wb ⟨rfl, rfl⟩)

                  go_loop [8] (fun i => ∃ j : Nat, 0 ≤ j ∧ j ≤ k ∧ i = .int .i64 j ∧ ∀ q c, 0 ≤ q → q < j → cc[q]? = some c → blank c = false) (fun i => k - (intOf i).toNat)
                  case atStart => exact ⟨0, by omega, by omega, rfl, by omega⟩
                  case round =>
                    obtain ⟨j, hmj, hjk, rfl, hall⟩ := hrel
                    have hjs : j ≤ s.length := by omega
                    by_cases hgo : ∃ c, cc[j]? = some c ∧ blank c = false
                    · obtain ⟨c, hc, hcb⟩ := hgo
                      have hjk2 : j < k := by rw [← hcl]; exact (List.getElem?_eq_some_iff.1 hc).1
                      have hjs2 : j < s.length := by omega
                      obtain ⟨c', hc', hb'⟩ := hget.out j hjk2
                      rw [hc] at hc'
                      cases hc'
                      have hend : Hid ((∃ j' : Nat, 0 ≤ j' ∧ j' ≤ k ∧ Value.int .i64 ((j : Int) + 1) = .int .i64 j' ∧ ∀ q c, 0 ≤ q → q < j' → cc[q]? = some c → blank c = false) ∧ k - (intOf (.int .i64 ((j : Int) + 1))).toNat < k - (intOf (.int .i64 j)).toNat) := by
                        refine ⟨⟨j + 1, by omega, by omega, by simp, fun q d hq hqj hd => ?_⟩, by simp [intOf]; omega⟩
                        by_cases hqe : q = j
                        · subst hqe
                          rw [hc] at hd
                          cases hd
                          exact hcb
                        · exact hall q d hq (by omega) hd
                      clear hall hc
                      go_wp2_with (go_at_call 35; refine (blank_ok _ _).mono ?_; rintro e w' ⟨rfl, rfl⟩)
                      simpa using hend.out
                    · have htw : Hid ((cc.drop 0).takeWhile nb = (s.take j).drop 0) := by
                        show _ = _
                        rw [takeWhile_upto (cc.drop 0) (j - 0) (by simp; omega) (fun q c hq hc => by
                            rw [List.getElem?_drop] at hc
                            simp [nb, hall (0 + q) c (by omega) (by omega) hc]) (fun c hc => by
                            rw [List.getElem?_drop, show 0 + (j - 0) = j by omega] at hc
                            simp only [nb, Bool.not_eq_false']
                            cases hb : blank c with
                            | true => rfl
                            | false => exact absurd ⟨c, hc, hb⟩ hgo), hcut.out 0 j hjk, List.take_drop, show 0 + (j - 0) = j by omega]
                      have hway : j = k ∨ ∃ c, cc[j]? = some c ∧ blank c = true := by
                        by_cases hjk2 : j < k
                        · obtain ⟨c, hc, -⟩ := hget.out j hjk2
                          right
                          refine ⟨c, hc, ?_⟩
                          cases hb : blank c with
                          | true => rfl
                          | false => exact absurd ⟨c, hc, hb⟩ hgo
                        · left; omega
                      clear hall hgo
                      generalize hT : (s.take j).drop 0 = T at *
                      have hex : (ByteArray.mk s.toArray).extract 0 j = ⟨T.toArray⟩ := by rw [extract_list, hT]
                      clear hT
                      have hst2 : Hid (doneL cc (0 + 1) = doneL cc 0 ++ [(0, T)]) := by
                        show _ = _
                        rw [hst.out, htw.out]
                      clear hst htw
                      have hnl : (doneL cc 0).length ≤ 100000 := by have := doneL_len cc 0 (by omega); omega
                      have hszr := hbl.size
                      rcases hway with hjk2 | ⟨c, hc, hcb⟩
                      · subst hjk2
                        go_wp2_with (first | (go_at_call 35; refine (blank_ok _ _).mono ?_; rintro e wb ⟨rfl, rfl⟩) | (at_builtin; refine wpList_append_any _ rfl (.tmp 56) (.tmp 64) 33 rfl w.heap.size 36 i0 _ 3 32 Tryd.underlying33 hi0 hz0 hz1 hz2 rfl (by decide) (.slice A1 (doneL cc 0).length c1) (doneL cc 0).length _ rfl (how.alloc _) (W1.heap.size + 1) (some ⟨W1.heap.size, 0, none⟩) 1 1 [.int .i64 ln, .int .i64 0, .string ⟨T.toArray⟩] rfl (by exact Rd.newAt _ _ (by simp) #[.int .i64 ln, .int .i64 0, .string ⟨T.toArray⟩] 36 1 3 rfl) (by simp [Value.oneCell']) (by simp only [maxLen]; omega) (by omega) (by simp; omega) ?_; intro v1 w1 hown1 hg1 _))
                        go_roundw
                        case rel =>
                          refine ⟨0 + 1, by omega, by simp, ?_, (hbl.alloc hszr _).grown hg1 (by simp; omega) (fun g hg => (how.lt g hg).1)⟩
                          rw [hst2.out, num_app, List.length_append]
                          exact hown1
                        case measure => simp [intOf]; omega
                      · have hjk2 : j < k := by rw [← hcl]; exact (List.getElem?_eq_some_iff.1 hc).1
                        have hjs2 : j < s.length := by omega
                        obtain ⟨c', hc', hb'⟩ := hget.out j hjk2
                        rw [hc] at hc'
                        cases hc'
                        clear hc
                        go_wp2_with (first | (go_at_call 35; refine (blank_ok _ _).mono ?_; rintro e wb ⟨rfl, rfl⟩) | (at_builtin; refine wpList_append_any _ rfl (.tmp 56) (.tmp 64) 33 rfl w.heap.size 36 i0 _ 3 32 Tryd.underlying33 hi0 hz0 hz1 hz2 rfl (by decide) (.slice A1 (doneL cc 0).length c1) (doneL cc 0).length _ rfl (how.alloc _) (W1.heap.size + 1) (some ⟨W1.heap.size, 0, none⟩) 1 1 [.int .i64 ln, .int .i64 0, .string ⟨T.toArray⟩] rfl (by exact Rd.newAt _ _ (by simp) #[.int .i64 ln, .int .i64 0, .string ⟨T.toArray⟩] 36 1 3 rfl) (by simp [Value.oneCell']) (by simp only [maxLen]; omega) (by omega) (by simp; omega) ?_; intro v1 w1 hown1 hg1 _))
                        go_roundw
                        case rel =>
                          refine ⟨0 + 1, by omega, by simp, ?_, (hbl.alloc hszr _).grown hg1 (by simp; omega) (fun g hg => (how.lt g hg).1)⟩
                          rw [hst2.out, num_app, List.length_append]
                          exact hown1
                        case measure => simp [intOf]; omega
                · obtain ⟨b3, hc3, hb3⟩ := hget.out m' (by omega)
                  rw [hc2] at hc3
                  cases hc3
                  subst h0
                  have hms2 : m' < s.length := by omega
                  clear hc2
                  go_wp2_with (go_at_call 35; refine (blank_ok _ _).mono ?_; rintro e w' ⟨rfl, rfl⟩)
                  obtain ⟨m, hmm⟩ : ∃ m : Nat, m' + 1 = m := ⟨_, rfl⟩
                  have hmI : (m' : Int) + 1 = (m : Int) := by omega
                  simp only [hmI, hmm] at *
                  clear hmI hb3 hms2

                  go_loop [8] (fun i => ∃ j : Nat, m ≤ j ∧ j ≤ k ∧ i = .int .i64 j ∧ ∀ q c, m ≤ q → q < j → cc[q]? = some c → blank c = false) (fun i => k - (intOf i).toNat)
                  case atStart => exact ⟨m, by omega, by omega, rfl, by omega⟩
                  case round =>
                    obtain ⟨j, hmj, hjk, rfl, hall⟩ := hrel
                    have hjs : j ≤ s.length := by omega
                    by_cases hgo : ∃ c, cc[j]? = some c ∧ blank c = false
                    · obtain ⟨c, hc, hcb⟩ := hgo
                      have hjk2 : j < k := by rw [← hcl]; exact (List.getElem?_eq_some_iff.1 hc).1
                      have hjs2 : j < s.length := by omega
                      obtain ⟨c', hc', hb'⟩ := hget.out j hjk2
                      rw [hc] at hc'
                      cases hc'
                      have hend : Hid ((∃ j' : Nat, m ≤ j' ∧ j' ≤ k ∧ Value.int .i64 ((j : Int) + 1) = .int .i64 j' ∧ ∀ q c, m ≤ q → q < j' → cc[q]? = some c → blank c = false) ∧ k - (intOf (.int .i64 ((j : Int) + 1))).toNat < k - (intOf (.int .i64 j)).toNat) := by
                        refine ⟨⟨j + 1, by omega, by omega, by simp, fun q d hq hqj hd => ?_⟩, by simp [intOf]; omega⟩
                        by_cases hqe : q = j
                        · subst hqe
                          rw [hc] at hd
                          cases hd
                          exact hcb
                        · exact hall q d hq (by omega) hd
                      clear hall hc
                      go_wp2_with (go_at_call 35; refine (blank_ok _ _).mono ?_; rintro e w' ⟨rfl, rfl⟩)
                      simpa using hend.out
                    · have htw : Hid ((cc.drop m).takeWhile nb = (s.take j).drop m) := by
                        show _ = _
                        rw [takeWhile_upto (cc.drop m) (j - m) (by simp; omega) (fun q c hq hc => by
                            rw [List.getElem?_drop] at hc
                            simp [nb, hall (m + q) c (by omega) (by omega) hc]) (fun c hc => by
                            rw [List.getElem?_drop, show m + (j - m) = j by omega] at hc
                            simp only [nb, Bool.not_eq_false']
                            cases hb : blank c with
                            | true => rfl
                            | false => exact absurd ⟨c, hc, hb⟩ hgo), hcut.out m j hjk, List.take_drop, show m + (j - m) = j by omega]
                      have hway : j = k ∨ ∃ c, cc[j]? = some c ∧ blank c = true := by
                        by_cases hjk2 : j < k
                        · obtain ⟨c, hc, -⟩ := hget.out j hjk2
                          right
                          refine ⟨c, hc, ?_⟩
                          cases hb : blank c with
                          | true => rfl
                          | false => exact absurd ⟨c, hc, hb⟩ hgo
                        · left; omega
                      clear hall hgo
                      generalize hT : (s.take j).drop m = T at *
                      have hex : (ByteArray.mk s.toArray).extract m j = ⟨T.toArray⟩ := by rw [extract_list, hT]
                      clear hT
                      have hst2 : Hid (doneL cc (m + 1) = doneL cc m ++ [(m, T)]) := by
                        show _ = _
                        rw [hst.out, htw.out]
                      clear hst htw
                      have hnl : (doneL cc m).length ≤ 100000 := by have := doneL_len cc m (by omega); omega
                      have hszr := hbl.size
                      rcases hway with hjk2 | ⟨c, hc, hcb⟩
                      · subst hjk2
                        go_wp2_with (first | (go_at_call 35; refine (blank_ok _ _).mono ?_; rintro e wb ⟨rfl, rfl⟩) | (at_builtin; refine wpList_append_any _ rfl (.tmp 56) (.tmp 64) 33 rfl w.heap.size 36 i0 _ 3 32 Tryd.underlying33 hi0 hz0 hz1 hz2 rfl (by decide) (.slice A1 (doneL cc m).length c1) (doneL cc m).length _ rfl (how.alloc _) (W1.heap.size + 1) (some ⟨W1.heap.size, 0, none⟩) 1 1 [.int .i64 ln, .int .i64 (m : Nat), .string ⟨T.toArray⟩] rfl (by exact Rd.newAt _ _ (by simp) #[.int .i64 ln, .int .i64 (m : Nat), .string ⟨T.toArray⟩] 36 1 3 rfl) (by simp [Value.oneCell']) (by simp only [maxLen]; omega) (by omega) (by simp; omega) ?_; intro v1 w1 hown1 hg1 _))
                        go_roundw
                        case rel =>
                          refine ⟨m + 1, by omega, by simp, ?_, (hbl.alloc hszr _).grown hg1 (by simp; omega) (fun g hg => (how.lt g hg).1)⟩
                          rw [hst2.out, num_app, List.length_append]
                          exact hown1
                        case measure => simp [intOf]; omega
                      · have hjk2 : j < k := by rw [← hcl]; exact (List.getElem?_eq_some_iff.1 hc).1
                        have hjs2 : j < s.length := by omega
                        obtain ⟨c', hc', hb'⟩ := hget.out j hjk2
                        rw [hc] at hc'
                        cases hc'
                        clear hc
                        go_wp2_with (first | (go_at_call 35; refine (blank_ok _ _).mono ?_; rintro e wb ⟨rfl, rfl⟩) | (at_builtin; refine wpList_append_any _ rfl (.tmp 56) (.tmp 64) 33 rfl w.heap.size 36 i0 _ 3 32 Tryd.underlying33 hi0 hz0 hz1 hz2 rfl (by decide) (.slice A1 (doneL cc m).length c1) (doneL cc m).length _ rfl (how.alloc _) (W1.heap.size + 1) (some ⟨W1.heap.size, 0, none⟩) 1 1 [.int .i64 ln, .int .i64 (m : Nat), .string ⟨T.toArray⟩] rfl (by exact Rd.newAt _ _ (by simp) #[.int .i64 ln, .int .i64 (m : Nat), .string ⟨T.toArray⟩] 36 1 3 rfl) (by simp [Value.oneCell']) (by simp only [maxLen]; omega) (by omega) (by simp; omega) ?_; intro v1 w1 hown1 hg1 _))
                        go_roundw
                        case rel =>
                          refine ⟨m + 1, by omega, by simp, ?_, (hbl.alloc hszr _).grown hg1 (by simp; omega) (fun g hg => (how.lt g hg).1)⟩
                          rw [hst2.out, num_app, List.length_append]
                          exact hown1
                        case measure => simp [intOf]; omega
          · obtain rfl : m = k := by omega
            go_wp2
            go_ret
            exact ⟨_, rfl, by rw [hone.out]; exact how, hbl⟩
      · have hlt : k < s.length := (List.getElem?_eq_some_iff.1 hc).1
        have hb := byte_at s k _ hc hlt
        clear hc
        go_wp2
        clear hb hlt
        go_loopw [6, 7] (fun v i wr => ∃ m : Nat, m ≤ k ∧ i = .int .i64 m ∧ wr.ownsRow w.heap.size 36 3 v (doneL cc m).length (c3s (num ln (doneL cc m))) ∧ Below w.heap.size w wr) (fun _ i _ => k - (intOf i).toNat)
        case atStart => exact ⟨0, by omega, rfl, by rw [doneL_zero]; exact hP, (Below.refl _ _).alloc (Nat.le_refl _) _⟩
        case round =>
          obtain ⟨m, hm, rfl, how, hbl⟩ := hrel
          obtain ⟨A1, c1, rfl, -⟩ := Rd.of_own how
          by_cases hmk : m < k
          · obtain ⟨b, hcb, hb⟩ := hget.out m hmk
            have Hcb := Lib.hid hcb
            clear hcb
            have hms : m < s.length := by omega
            cases hbl0 : blank b with
            | true =>
              have hst := Lib.hid (doneL_blank cc m b Hcb.out hbl0)
              go_wp2_with (go_at_call 35; refine (blank_ok _ _).mono ?_; rintro e w' ⟨rfl, rfl⟩)
              go_roundw
              case rel => exact ⟨m + 1, by omega, by simp, by rw [hst.out]; exact how, hbl⟩
              case measure => simp [intOf]; omega
            | false =>
              by_cases hin : ∃ m', m = m' + 1 ∧ ∃ b2, cc[m']? = some b2 ∧ blank b2 = false
              · obtain ⟨m', rfl, b2, hc2, hbl2⟩ := hin
                have hst := Lib.hid (doneL_in cc (m' + 1) b Hcb.out hbl0 (cur_in cc m' b2 hc2 hbl2))
                obtain ⟨b3, hc3, hb3⟩ := hget.out m' (by omega)
                rw [hc2] at hc3
                cases hc3
                have hms2 : m' < s.length := by omega
                clear hc2
                go_wp2_with (go_at_call 35; refine (blank_ok _ _).mono ?_; rintro e w' ⟨rfl, rfl⟩)
                go_roundw
                case rel => exact ⟨m' + 1 + 1, by omega, by simp, by rw [hst.out]; exact how, hbl⟩
                case measure => simp [intOf]; omega
              · have hcur : (run (cc.take m)).cur = [] := by
                  cases m with
                  | zero => exact cur_zero cc
                  | succ m' =>
                    obtain ⟨b2, hc2, -⟩ := hget.out m' (by omega)
                    rw [cur_iff cc m' b2 hc2]
                    cases hb2 : blank b2 with
                    | true => rfl
                    | false => exact absurd ⟨m', rfl, b2, hc2, hb2⟩ hin
                have hst := Lib.hid (doneL_new cc m b Hcb.out hbl0 hcur)
                have hpre : m = 0 ∨ ∃ m', m = m' + 1 ∧ ∃ b2, cc[m']? = some b2 ∧ blank b2 = true := by
                  cases m with
                  | zero => exact .inl rfl
                  | succ m' =>
                    obtain ⟨b2, hc2, -⟩ := hget.out m' (by omega)
                    exact .inr ⟨m', rfl, b2, hc2, (cur_iff cc m' b2 hc2).1 hcur⟩
                clear hin hcur
                obtain ⟨W1, hW1⟩ : ∃ W1, W1 = wr := ⟨_, rfl⟩
                subst hW1
                rcases hpre with h0 | ⟨m', h0, b2, hc2, hbl2⟩
                · subst h0
                  go_wp2_with (go_at_call 35; refine (blank_ok _ _).mono ?_; rintro e wb ⟨rfl, rfl⟩)

                  go_loop [8] (fun i => ∃ j : Nat, 0 ≤ j ∧ j ≤ k ∧ i = .int .i64 j ∧ ∀ q c, 0 ≤ q → q < j → cc[q]? = some c → blank c = false) (fun i => k - (intOf i).toNat)
                  case atStart => exact ⟨0, by omega, by omega, rfl, by omega⟩
                  case round =>
                    obtain ⟨j, hmj, hjk, rfl, hall⟩ := hrel
                    have hjs : j ≤ s.length := by omega
                    by_cases hgo : ∃ c, cc[j]? = some c ∧ blank c = false
                    · obtain ⟨c, hc, hcb⟩ := hgo
                      have hjk2 : j < k := by rw [← hcl]; exact (List.getElem?_eq_some_iff.1 hc).1
                      have hjs2 : j < s.length := by omega
                      obtain ⟨c', hc', hb'⟩ := hget.out j hjk2
                      rw [hc] at hc'
                      cases hc'
                      have hend : Hid ((∃ j' : Nat, 0 ≤ j' ∧ j' ≤ k ∧ Value.int .i64 ((j : Int) + 1) = .int .i64 j' ∧ ∀ q c, 0 ≤ q → q < j' → cc[q]? = some c → blank c = false) ∧ k - (intOf (.int .i64 ((j : Int) + 1))).toNat < k - (intOf (.int .i64 j)).toNat) := by
                        refine ⟨⟨j + 1, by omega, by omega, by simp, fun q d hq hqj hd => ?_⟩, by simp [intOf]; omega⟩
                        by_cases hqe : q = j
                        · subst hqe
                          rw [hc] at hd
                          cases hd
                          exact hcb
                        · exact hall q d hq (by omega) hd
                      clear hall hc
                      go_wp2_with (go_at_call 35; refine (blank_ok _ _).mono ?_; rintro e w' ⟨rfl, rfl⟩)
                      simpa using hend.out
                    · have htw : Hid ((cc.drop 0).takeWhile nb = (s.take j).drop 0) := by
                        show _ = _
                        rw [takeWhile_upto (cc.drop 0) (j - 0) (by simp; omega) (fun q c hq hc => by
                            rw [List.getElem?_drop] at hc
                            simp [nb, hall (0 + q) c (by omega) (by omega) hc]) (fun c hc => by
                            rw [List.getElem?_drop, show 0 + (j - 0) = j by omega] at hc
                            simp only [nb, Bool.not_eq_false']
                            cases hb : blank c with
                            | true => rfl
                            | false => exact absurd ⟨c, hc, hb⟩ hgo), hcut.out 0 j hjk, List.take_drop, show 0 + (j - 0) = j by omega]
                      have hway : j = k ∨ ∃ c, cc[j]? = some c ∧ blank c = true := by
                        by_cases hjk2 : j < k
                        · obtain ⟨c, hc, -⟩ := hget.out j hjk2
                          right
                          refine ⟨c, hc, ?_⟩
                          cases hb : blank c with
                          | true => rfl
                          | false => exact absurd ⟨c, hc, hb⟩ hgo
                        · left; omega
                      clear hall hgo
                      generalize hT : (s.take j).drop 0 = T at *
                      have hex : (ByteArray.mk s.toArray).extract 0 j = ⟨T.toArray⟩ := by rw [extract_list, hT]
                      clear hT
                      have hst2 : Hid (doneL cc (0 + 1) = doneL cc 0 ++ [(0, T)]) := by
                        show _ = _
                        rw [hst.out, htw.out]
                      clear hst htw
                      have hnl : (doneL cc 0).length ≤ 100000 := by have := doneL_len cc 0 (by omega); omega
                      have hszr := hbl.size
                      rcases hway with hjk2 | ⟨c, hc, hcb⟩
                      · subst hjk2
                        go_wp2_with (first | (go_at_call 35; refine (blank_ok _ _).mono ?_; rintro e wb ⟨rfl, rfl⟩) | (at_builtin; refine wpList_append_any _ rfl (.tmp 56) (.tmp 64) 33 rfl w.heap.size 36 i0 _ 3 32 Tryd.underlying33 hi0 hz0 hz1 hz2 rfl (by decide) (.slice A1 (doneL cc 0).length c1) (doneL cc 0).length _ rfl (how.alloc _) (W1.heap.size + 1) (some ⟨W1.heap.size, 0, none⟩) 1 1 [.int .i64 ln, .int .i64 0, .string ⟨T.toArray⟩] rfl (by exact Rd.newAt _ _ (by simp) #[.int .i64 ln, .int .i64 0, .string ⟨T.toArray⟩] 36 1 3 rfl) (by simp [Value.oneCell']) (by simp only [maxLen]; omega) (by omega) (by simp; omega) ?_; intro v1 w1 hown1 hg1 _))
                        go_roundw
                        case rel =>
                          refine ⟨0 + 1, by omega, by simp, ?_, (hbl.alloc hszr _).grown hg1 (by simp; omega) (fun g hg => (how.lt g hg).1)⟩
                          rw [hst2.out, num_app, List.length_append]
                          exact hown1
                        case measure => simp [intOf]; omega
                      · have hjk2 : j < k := by rw [← hcl]; exact (List.getElem?_eq_some_iff.1 hc).1
                        have hjs2 : j < s.length := by omega
                        obtain ⟨c', hc', hb'⟩ := hget.out j hjk2
                        rw [hc] at hc'
                        cases hc'
                        clear hc
                        go_wp2_with (first | (go_at_call 35; refine (blank_ok _ _).mono ?_; rintro e wb ⟨rfl, rfl⟩) | (at_builtin; refine wpList_append_any _ rfl (.tmp 56) (.tmp 64) 33 rfl w.heap.size 36 i0 _ 3 32 Tryd.underlying33 hi0 hz0 hz1 hz2 rfl (by decide) (.slice A1 (doneL cc 0).length c1) (doneL cc 0).length _ rfl (how.alloc _) (W1.heap.size + 1) (some ⟨W1.heap.size, 0, none⟩) 1 1 [.int .i64 ln, .int .i64 0, .string ⟨T.toArray⟩] rfl (by exact Rd.newAt _ _ (by simp) #[.int .i64 ln, .int .i64 0, .string ⟨T.toArray⟩] 36 1 3 rfl) (by simp [Value.oneCell']) (by simp only [maxLen]; omega) (by omega) (by simp; omega) ?_; intro v1 w1 hown1 hg1 _))
                        go_roundw
                        case rel =>
                          refine ⟨0 + 1, by omega, by simp, ?_, (hbl.alloc hszr _).grown hg1 (by simp; omega) (fun g hg => (how.lt g hg).1)⟩
                          rw [hst2.out, num_app, List.length_append]
                          exact hown1
                        case measure => simp [intOf]; omega
                · obtain ⟨b3, hc3, hb3⟩ := hget.out m' (by omega)
                  rw [hc2] at hc3
                  cases hc3
                  subst h0
                  have hms2 : m' < s.length := by omega
                  clear hc2
                  go_wp2_with (go_at_call 35; refine (blank_ok _ _).mono ?_; rintro e w' ⟨rfl, rfl⟩)
                  obtain ⟨m, hmm⟩ : ∃ m : Nat, m' + 1 = m := ⟨_, rfl⟩
                  have hmI : (m' : Int) + 1 = (m : Int) := by omega
                  simp only [hmI, hmm] at *
                  clear hmI hb3 hms2

                  go_loop [8] (fun i => ∃ j : Nat, m ≤ j ∧ j ≤ k ∧ i = .int .i64 j ∧ ∀ q c, m ≤ q → q < j → cc[q]? = some c → blank c = false) (fun i => k - (intOf i).toNat)
                  case atStart => exact ⟨m, by omega, by omega, rfl, by omega⟩
                  case round =>
                    obtain ⟨j, hmj, hjk, rfl, hall⟩ := hrel
                    have hjs : j ≤ s.length := by omega
                    by_cases hgo : ∃ c, cc[j]? = some c ∧ blank c = false
                    · obtain ⟨c, hc, hcb⟩ := hgo
                      have hjk2 : j < k := by rw [← hcl]; exact (List.getElem?_eq_some_iff.1 hc).1
                      have hjs2 : j < s.length := by omega
                      obtain ⟨c', hc', hb'⟩ := hget.out j hjk2
                      rw [hc] at hc'
                      cases hc'
                      have hend : Hid ((∃ j' : Nat, m ≤ j' ∧ j' ≤ k ∧ Value.int .i64 ((j : Int) + 1) = .int .i64 j' ∧ ∀ q c, m ≤ q → q < j' → cc[q]? = some c → blank c = false) ∧ k - (intOf (.int .i64 ((j : Int) + 1))).toNat < k - (intOf (.int .i64 j)).toNat) := by
                        refine ⟨⟨j + 1, by omega, by omega, by simp, fun q d hq hqj hd => ?_⟩, by simp [intOf]; omega⟩
                        by_cases hqe : q = j
                        · subst hqe
                          rw [hc] at hd
                          cases hd
                          exact hcb
                        · exact hall q d hq (by omega) hd
                      clear hall hc
                      go_wp2_with (go_at_call 35; refine (blank_ok _ _).mono ?_; rintro e w' ⟨rfl, rfl⟩)
                      simpa using hend.out
                    · have htw : Hid ((cc.drop m).takeWhile nb = (s.take j).drop m) := by
                        show _ = _
                        rw [takeWhile_upto (cc.drop m) (j - m) (by simp; omega) (fun q c hq hc => by
                            rw [List.getElem?_drop] at hc
                            simp [nb, hall (m + q) c (by omega) (by omega) hc]) (fun c hc => by
                            rw [List.getElem?_drop, show m + (j - m) = j by omega] at hc
                            simp only [nb, Bool.not_eq_false']
                            cases hb : blank c with
                            | true => rfl
                            | false => exact absurd ⟨c, hc, hb⟩ hgo), hcut.out m j hjk, List.take_drop, show m + (j - m) = j by omega]
                      have hway : j = k ∨ ∃ c, cc[j]? = some c ∧ blank c = true := by
                        by_cases hjk2 : j < k
                        · obtain ⟨c, hc, -⟩ := hget.out j hjk2
                          right
                          refine ⟨c, hc, ?_⟩
                          cases hb : blank c with
                          | true => rfl
                          | false => exact absurd ⟨c, hc, hb⟩ hgo
                        · left; omega
                      clear hall hgo
                      generalize hT : (s.take j).drop m = T at *
                      have hex : (ByteArray.mk s.toArray).extract m j = ⟨T.toArray⟩ := by rw [extract_list, hT]
                      clear hT
                      have hst2 : Hid (doneL cc (m + 1) = doneL cc m ++ [(m, T)]) := by
                        show _ = _
                        rw [hst.out, htw.out]
                      clear hst htw
                      have hnl : (doneL cc m).length ≤ 100000 := by have := doneL_len cc m (by omega); omega
                      have hszr := hbl.size
                      rcases hway with hjk2 | ⟨c, hc, hcb⟩
                      · subst hjk2
                        go_wp2_with (first | (go_at_call 35; refine (blank_ok _ _).mono ?_; rintro e wb ⟨rfl, rfl⟩) | (at_builtin; refine wpList_append_any _ rfl (.tmp 56) (.tmp 64) 33 rfl w.heap.size 36 i0 _ 3 32 Tryd.underlying33 hi0 hz0 hz1 hz2 rfl (by decide) (.slice A1 (doneL cc m).length c1) (doneL cc m).length _ rfl (how.alloc _) (W1.heap.size + 1) (some ⟨W1.heap.size, 0, none⟩) 1 1 [.int .i64 ln, .int .i64 (m : Nat), .string ⟨T.toArray⟩] rfl (by exact Rd.newAt _ _ (by simp) #[.int .i64 ln, .int .i64 (m : Nat), .string ⟨T.toArray⟩] 36 1 3 rfl) (by simp [Value.oneCell']) (by simp only [maxLen]; omega) (by omega) (by simp; omega) ?_; intro v1 w1 hown1 hg1 _))
                        go_roundw
                        case rel =>
                          refine ⟨m + 1, by omega, by simp, ?_, (hbl.alloc hszr _).grown hg1 (by simp; omega) (fun g hg => (how.lt g hg).1)⟩
                          rw [hst2.out, num_app, List.length_append]
                          exact hown1
                        case measure => simp [intOf]; omega
                      · have hjk2 : j < k := by rw [← hcl]; exact (List.getElem?_eq_some_iff.1 hc).1
                        have hjs2 : j < s.length := by omega
                        obtain ⟨c', hc', hb'⟩ := hget.out j hjk2
                        rw [hc] at hc'
                        cases hc'
                        clear hc
                        go_wp2_with (first | (go_at_call 35; refine (blank_ok _ _).mono ?_; rintro e wb ⟨rfl, rfl⟩) | (at_builtin; refine wpList_append_any _ rfl (.tmp 56) (.tmp 64) 33 rfl w.heap.size 36 i0 _ 3 32 Tryd.underlying33 hi0 hz0 hz1 hz2 rfl (by decide) (.slice A1 (doneL cc m).length c1) (doneL cc m).length _ rfl (how.alloc _) (W1.heap.size + 1) (some ⟨W1.heap.size, 0, none⟩) 1 1 [.int .i64 ln, .int .i64 (m : Nat), .string ⟨T.toArray⟩] rfl (by exact Rd.newAt _ _ (by simp) #[.int .i64 ln, .int .i64 (m : Nat), .string ⟨T.toArray⟩] 36 1 3 rfl) (by simp [Value.oneCell']) (by simp only [maxLen]; omega) (by omega) (by simp; omega) ?_; intro v1 w1 hown1 hg1 _))
                        go_roundw
                        case rel =>
                          refine ⟨m + 1, by omega, by simp, ?_, (hbl.alloc hszr _).grown hg1 (by simp; omega) (fun g hg => (how.lt g hg).1)⟩
                          rw [hst2.out, num_app, List.length_append]
                          exact hown1
                        case measure => simp [intOf]; omega
          · obtain rfl : m = k := by omega
            go_wp2
            go_ret
            exact ⟨_, rfl, by rw [hone.out]; exact how, hbl⟩
end Go.Proofs.YtccnogdfnikioaaDoor
