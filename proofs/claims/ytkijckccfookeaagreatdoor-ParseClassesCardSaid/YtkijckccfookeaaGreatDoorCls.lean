/- fleuronlaw08.ParseClasses returns true. -/
import Derived.Test.YtkijckccfookeaaGreatDoorK39
import Derived.Test.YtkijckccfookeaaGreatDoorK43
import Derived.Test.YtkijckccfookeaaGreatDoorK44
import Derived.Test.YtkijckccfookeaaGreatDoorSmall
import Derived.Deep.Cut
import Derived.Deep.RegionHeld3
namespace Go.Proofs.YtkijckccfookeaaGreatDoor
open Go.RowKit
attribute [-go_sem] Builtin.append_

theorem more_snoc (l : List Int) (n : Int) : moreB ((l ++ [n]).map gN) = moreB (l.map gN) ++ 32 :: gN n := by simp [moreB]
/-- two rows of numbers of the call's own -/
structure TwoR (w : World) (Bd : Nat) (A1 : Option Addr) (c1 : Nat) (xs : List Int) (A2 : Option Addr) (c2 : Nat) (ys : List Int) : Prop where
  one : w.ownsRow Bd tInt 1 (.slice A1 xs.length c1) xs.length (cIs xs)
  two : w.ownsRow Bd tInt 1 (.slice A2 ys.length c2) ys.length (cIs ys)
  apart : ∀ g, (Value.slice A1 xs.length c1).ownBlock = some g → (Value.slice A2 ys.length c2).ownBlock ≠ some g
theorem TwoR.below {w w' : World} {Bd : Nat} {A1 A2 : Option Addr} {c1 c2 : Nat} {xs ys : List Int} (h : TwoR w Bd A1 c1 xs A2 c2 ys) (hb : Below w.heap.size w w') : TwoR w' Bd A1 c1 xs A2 c2 ys := ⟨own_below h.one hb, own_below h.two hb, h.apart⟩
theorem TwoR.swap {w : World} {Bd : Nat} {A1 A2 : Option Addr} {c1 c2 : Nat} {xs ys : List Int} (h : TwoR w Bd A1 c1 xs A2 c2 ys) : TwoR w Bd A2 c2 ys A1 c1 xs := ⟨h.two, h.one, fun g e k => h.apart g k e⟩
theorem TwoR.push {w w' : World} {Bd : Nat} {A1 A2 A' : Option Addr} {c1 c2 c' : Nat} {xs ys zs : List Int} {n : Nat} (hn : n = (xs ++ zs).length) (h : TwoR w Bd A1 c1 xs A2 c2 ys) (hg : w.grownBy w' (Value.slice A1 xs.length c1).ownBlock)
    (ho : w'.ownsRow Bd tInt 1 (.slice A' n c') n (cIs xs ++ cIs zs)) (hl : Loc w (.slice A1 xs.length c1) (.slice A' n c')) : TwoR w' Bd A' c' (xs ++ zs) A2 c2 ys := by
  subst hn
  have hne : ∀ g, (Value.slice A2 ys.length c2).ownBlock = some g → (Value.slice A' (xs ++ zs).length c').ownBlock ≠ some g := fun g hg2 e => by
    rcases hl with hl | hl
    · rw [hl] at e
      exact h.apart g e hg2
    · have := hl g e
      have := (h.two.lt g hg2).2
      omega
  refine ⟨by simpa [cIs] using ho, h.two.kept hg ?_, fun g e k => hne g k e⟩
  cases hb : (Value.slice A2 ys.length c2).ownBlock with
  | none => exact .inl rfl
  | some g => exact .inr (fun e => h.apart g e.symm hb)
theorem snoc_in {l : List Int} {n : Int} (h : Hid (∀ n ∈ l, In 8 n)) (hn : In 8 n) : Hid (∀ x ∈ l ++ [n], In 8 x) := fun x hx => by
  rw [List.mem_append, List.mem_singleton] at hx
  rcases hx with hx | rfl
  · exact h.out x hx
  · exact hn
theorem TwoR.rd {w : World} {Bd : Nat} {A1 A2 : Option Addr} {c1 c2 : Nat} {xs ys : List Int} (h : TwoR w Bd A1 c1 xs A2 c2 ys) : Rd w w.heap.size A1 xs.length 1 (cIs xs) := by
  obtain ⟨A', c', e1, h1⟩ := Rd.of_own h.one
  simp only [Value.slice.injEq, true_and] at e1
  obtain ⟨rfl, rfl⟩ := e1
  exact h1
theorem more_len2 (l : List Int) (h : ∀ n ∈ l, In 8 n) (k : Nat) (hl : l.length ≤ k) : (moreB (l.map gN)).length ≤ 12 * k := by
  have : (moreB (l.map gN)).length ≤ k * 12 := flat_le (l.map gN) _ 12 k (fun w hw => by
    rw [List.mem_map] at hw
    obtain ⟨n, hn, rfl⟩ := hw
    obtain ⟨a, b⟩ := h n hn
    have := it_len n ⟨by omega, by omega⟩
    rw [List.length_cons, gN, List.length_cons]
    omega) (by rw [List.length_map]; exact hl)
  omega
set_option maxRecDepth 100000 in
set_option maxHeartbeats 8000000 in
theorem parseClasses_ok (w : World) (a b c : Nat) (ha : a < 256) (hb : b < 256) (hc : c < 256) (hTb : PTabs w) (hnT : nT ≤ w.heap.size) : Calls Tryz.prog 10 #[.int .u8 a, .int .u8 b, .int .u8 c] w fun e w' => e = .returned (.bool true) ∧ Below w.heap.size w w' := by
  go_enter Tryz.func10, Tryz.ntmps10
  go_wp2_with fail
  refine (shown_ok w hTb hnT).mono ?_
  rintro e w1 ⟨rfl, hb1⟩
  have HB1 := Lib.hid hb1
  have HTB := Lib.hid (hTb.below hb1)
  have hz1 := hb1.size
  clear hb1 hTb
  go_wp2_with fail
  go_loopw [8, 9, 10, 11, 12, 13] (fun s8 s9 s10 s11 s12 s13 wr => ∃ (k : Nat) (xs ys : List Int) (A1 A2 : Option Addr) (c1 c2 : Nat), k ≤ 8 ∧ s13 = .int .i64 k ∧ s8 = .string ⟨(cS k).toArray⟩ ∧ s9 = .string ⟨(moreB (xs.map gN)).toArray⟩ ∧ s10 = .string ⟨(moreB (ys.map gN)).toArray⟩ ∧ s11 = .slice A1 xs.length c1 ∧ s12 = .slice A2 ys.length c2 ∧
      TwoR wr w1.heap.size A1 c1 xs A2 c2 ys ∧ xs.length ≤ k ∧ ys.length ≤ k ∧ Hid (∀ n ∈ xs, In 8 n) ∧ Hid (∀ n ∈ ys, In 8 n) ∧ Below w1.heap.size w1 wr) (fun _ _ _ _ _ i _ => 8 - (intOf i).toNat)
  case atStart =>
    refine ⟨0, [], [], some ⟨w1.heap.size, 0, none⟩, some ⟨w1.heap.size + 1, 0, none⟩, 0, 0, by omega, rfl, rfl, rfl, rfl, rfl, rfl, ⟨?_, ?_, fun g e k => ?_⟩, by simp, by simp, Lib.hid (by simp), Lib.hid (by simp), ((Below.refl _ _).alloc (Nat.le_refl _) _).alloc (by simp) _⟩
    · exact own_below (own_new w1 w1.heap.size tInt 1 0 #[] (Nat.le_refl _) rfl (by omega)) ((Below.refl _ _).alloc (Nat.le_refl _) _)
    · have := own_new (w1.alloc (.cells #[] tInt)) w1.heap.size tInt 1 0 #[] (by simp) rfl (by omega)
      simpa [cIs] using this
    · simp [Value.ownBlock] at e k
      omega
  case round =>
    obtain ⟨k, xs, ys, A1, A2, c1, c2, hk, rfl, rfl, rfl, rfl, rfl, rfl, hT, hx1, hy1, hx2, hy2, hbr⟩ := hrel
    by_cases hlt : k < 8
    · have HDEC := Lib.hid (fun w' => decimal_ok w' (k : Int) ⟨by omega, by omega⟩)
      have hgl := gN_len k (by omega)
      have hil := it_len (k : Int) ⟨by omega, by omega⟩
      have hsl := cS_len k (by omega)
      have hsn := Lib.hid (cS_snoc k)
      have hml := more_len2 xs hx2.out k hx1
      have hml2 := more_len2 ys hy2.out k hy1
      obtain ⟨ba, hba⟩ : ∃ ba, (bits .and .u8 ((a : Int) / 2 ^ k) 1 == 1) = ba := ⟨_, rfl⟩
      obtain ⟨bb, hbb⟩ : ∃ bb, (bits .and .u8 ((b : Int) / 2 ^ k) 1 == 1) = bb := ⟨_, rfl⟩
      have hap0 : (ByteArray.mk #[32, 103]) ++ ⟨(itB (k : Int)).toArray⟩ = ⟨(32 :: gN k).toArray⟩ := app_list [32, 103] (itB k)
      have hsnx := Lib.hid (more_snoc xs k)
      have hsny := Lib.hid (more_snoc ys k)
      have hk8 : In 8 (k : Int) := ⟨by omega, by omega⟩
      generalize hG : gN (k : Int) = G at *
      have hcp : cPart k = cGly ++ (32 :: G) ++ cEnd := by rw [← hG]; rfl
      have HCP := Lib.hid hcp
      clear hG hcp
      go_wp2_with fail
      refine (HDEC.out _).mono ?_
      rintro e w3 ⟨rfl, hb3⟩
      have hT3 := hT.below hb3
      have hbr3 : Below w1.heap.size w1 w3 := hbr.trans (hb3.mono hbr.size)
      have hz3 := hbr3.size
      clear hT hb3 HDEC
      obtain ⟨M1, hM1⟩ : ∃ x, moreB (xs.map gN) = x := ⟨_, rfl⟩
      obtain ⟨M2, hM2⟩ : ∃ x, moreB (ys.map gN) = x := ⟨_, rfl⟩
      obtain ⟨S0, hS0⟩ : ∃ x, cS k = x := ⟨_, rfl⟩
      rw [hM1] at hml hsnx ⊢
      rw [hM2] at hml2 hsny ⊢
      rw [hS0] at hsl hsn ⊢
      have HM1 := Lib.hid hM1
      have HM2 := Lib.hid hM2
      clear hM1 hM2 hS0
      have hap1 : (ByteArray.mk S0.toArray) ++ ⟨#[103, 108, 121, 112, 104]⟩ = ⟨(S0 ++ cGly).toArray⟩ := app_list S0 cGly
      have hl1 : (S0 ++ cGly).length ≤ 400 := by rw [List.length_append]; unfold cGly; simp only [List.length_cons, List.length_nil]; omega
      generalize hS1 : S0 ++ cGly = S1 at *
      have hap2 : (ByteArray.mk S1.toArray) ++ ⟨(32 :: G).toArray⟩ = ⟨(S1 ++ (32 :: G)).toArray⟩ := app_list S1 (32 :: G)
      have hl2 : (S1 ++ (32 :: G)).length ≤ 420 := by rw [List.length_append, List.length_cons]; omega
      have hlg : (32 :: G).length ≤ 12 := by rw [List.length_cons]; omega
      generalize hS2 : S1 ++ (32 :: G) = S2 at *
      have hap3 : (ByteArray.mk S2.toArray) ++ ⟨#[32, 48, 10]⟩ = ⟨(S2 ++ cEnd).toArray⟩ := app_list S2 cEnd
      generalize hS3 : S2 ++ cEnd = S3 at *
      have HS : Hid (cS (k + 1) = S3) := by
        show _ = _
        rw [hsn.out, HCP.out, ← hS3, ← hS2, ← hS1]
        simp
      have hapx : (ByteArray.mk M1.toArray) ++ ⟨(32 :: G).toArray⟩ = ⟨(M1 ++ 32 :: G).toArray⟩ := app_list M1 (32 :: G)
      have hapy : (ByteArray.mk M2.toArray) ++ ⟨(32 :: G).toArray⟩ = ⟨(M2 ++ 32 :: G).toArray⟩ := app_list M2 (32 :: G)
      generalize hgg : (32 :: G) = GG at *
      clear hS1 hS2 hS3 hsn HCP
      have tk1 : True := trivial
      have tk2 : True := trivial
      cases ba with
      | true =>
        cases bb with
        | true =>
          by_cases h7 : k < 7
          · go_wp2_with (first | (at_builtin; have _t := tk1; refine push_l elInt rfl (.tmp 47) (.tmp 49) rfl w3 w3.heap.size rfl w1.heap.size xs.length c1 A1 (cIs xs) #[.int .i64 k] rfl rfl rfl hT3.one (by simp [Value.oneCell']) (by omega) hz3 ?_; intro A4 c4 w4 h4 g4 l4; have hT4 := hT3.push (zs := [(k : Int)]) (n := xs.length + 1) (by simp) g4 (by simpa [cIs, cI] using h4) l4; have hbr4 := hbr3.grown g4 hz3 (fun g e => (hT3.one.lt g e).1); have hz4 := hbr4.size; clear h4 g4 l4 _t tk1) | (at_builtin; have _t := tk2; refine push_l elInt rfl (.tmp 63) (.tmp 65) rfl w4 w4.heap.size rfl w1.heap.size ys.length c2 A2 (cIs ys) #[.int .i64 k] rfl rfl rfl hT4.two (by simp [Value.oneCell']) (by omega) hz4 ?_; intro A5 c5 w5 h5 g5 l5; have hT5 := (hT4.swap.push (zs := [(k : Int)]) (n := ys.length + 1) (by simp) g5 (by simpa [cIs, cI] using h5) l5).swap; have hbr5 := hbr4.grown g5 hz4 (fun g e => (hT4.two.lt g e).1); clear h5 g5 l5 _t tk2))
            go_roundw
            case rel => exact ⟨k + 1, (xs ++ [(k : Int)]), (ys ++ [(k : Int)]), A4, A5, c4, c5, by omega, by simp, by rw [HS.out], by rw [hsnx.out], by rw [hsny.out], by simp, by simp, hT5, by (try simp only [List.length_append, List.length_cons, List.length_nil]); omega, by (try simp only [List.length_append, List.length_cons, List.length_nil]); omega, (snoc_in hx2 hk8), (snoc_in hy2 hk8), hbr5⟩
            case measure => simp [intOf]; omega
          · go_wp2_with (first | (at_builtin; have _t := tk1; refine push_l elInt rfl (.tmp 47) (.tmp 49) rfl w3 w3.heap.size rfl w1.heap.size xs.length c1 A1 (cIs xs) #[.int .i64 k] rfl rfl rfl hT3.one (by simp [Value.oneCell']) (by omega) hz3 ?_; intro A4 c4 w4 h4 g4 l4; have hT4 := hT3.push (zs := [(k : Int)]) (n := xs.length + 1) (by simp) g4 (by simpa [cIs, cI] using h4) l4; have hbr4 := hbr3.grown g4 hz3 (fun g e => (hT3.one.lt g e).1); have hz4 := hbr4.size; clear h4 g4 l4 _t tk1))
            go_roundw
            case rel => exact ⟨k + 1, (xs ++ [(k : Int)]), ys, A4, A2, c4, c2, by omega, by simp, by rw [HS.out], by rw [hsnx.out], by rw [HM2.out], by simp, by simp, hT4, by (try simp only [List.length_append, List.length_cons, List.length_nil]); omega, by (try simp only [List.length_append, List.length_cons, List.length_nil]); omega, (snoc_in hx2 hk8), hy2, hbr4⟩
            case measure => simp [intOf]; omega
        | false =>
          go_wp2_with (first | (at_builtin; have _t := tk1; refine push_l elInt rfl (.tmp 47) (.tmp 49) rfl w3 w3.heap.size rfl w1.heap.size xs.length c1 A1 (cIs xs) #[.int .i64 k] rfl rfl rfl hT3.one (by simp [Value.oneCell']) (by omega) hz3 ?_; intro A4 c4 w4 h4 g4 l4; have hT4 := hT3.push (zs := [(k : Int)]) (n := xs.length + 1) (by simp) g4 (by simpa [cIs, cI] using h4) l4; have hbr4 := hbr3.grown g4 hz3 (fun g e => (hT3.one.lt g e).1); have hz4 := hbr4.size; clear h4 g4 l4 _t tk1))
          go_roundw
          case rel => exact ⟨k + 1, (xs ++ [(k : Int)]), ys, A4, A2, c4, c2, by omega, by simp, by rw [HS.out], by rw [hsnx.out], by rw [HM2.out], by simp, by simp, hT4, by (try simp only [List.length_append, List.length_cons, List.length_nil]); omega, by (try simp only [List.length_append, List.length_cons, List.length_nil]); omega, (snoc_in hx2 hk8), hy2, hbr4⟩
          case measure => simp [intOf]; omega
      | false =>
        cases bb with
        | true =>
          by_cases h7 : k < 7
          · go_wp2_with (first | (at_builtin; have _t := tk2; refine push_l elInt rfl (.tmp 63) (.tmp 65) rfl w3 w3.heap.size rfl w1.heap.size ys.length c2 A2 (cIs ys) #[.int .i64 k] rfl rfl rfl hT3.two (by simp [Value.oneCell']) (by omega) hz3 ?_; intro A5 c5 w5 h5 g5 l5; have hT5 := (hT3.swap.push (zs := [(k : Int)]) (n := ys.length + 1) (by simp) g5 (by simpa [cIs, cI] using h5) l5).swap; have hbr5 := hbr3.grown g5 hz3 (fun g e => (hT3.two.lt g e).1); clear h5 g5 l5 _t tk2))
            go_roundw
            case rel => exact ⟨k + 1, xs, (ys ++ [(k : Int)]), A1, A5, c1, c5, by omega, by simp, by rw [HS.out], by rw [HM1.out], by rw [hsny.out], by simp, by simp, hT5, by (try simp only [List.length_append, List.length_cons, List.length_nil]); omega, by (try simp only [List.length_append, List.length_cons, List.length_nil]); omega, hx2, (snoc_in hy2 hk8), hbr5⟩
            case measure => simp [intOf]; omega
          · go_wp2_with fail
            go_roundw
            case rel => exact ⟨k + 1, xs, ys, A1, A2, c1, c2, by omega, by simp, by rw [HS.out], by rw [HM1.out], by rw [HM2.out], by simp, by simp, hT3, by (try simp only [List.length_append, List.length_cons, List.length_nil]); omega, by (try simp only [List.length_append, List.length_cons, List.length_nil]); omega, hx2, hy2, hbr3⟩
            case measure => simp [intOf]; omega
        | false =>
          go_wp2_with fail
          go_roundw
          case rel => exact ⟨k + 1, xs, ys, A1, A2, c1, c2, by omega, by simp, by rw [HS.out], by rw [HM1.out], by rw [HM2.out], by simp, by simp, hT3, by (try simp only [List.length_append, List.length_cons, List.length_nil]); omega, by (try simp only [List.length_append, List.length_cons, List.length_nil]); omega, hx2, hy2, hbr3⟩
          case measure => simp [intOf]; omega
    · obtain rfl : k = 8 := by omega
      have hsl := cS_len 8 (by omega)
      have hml := more_len2 xs hx2.out 8 hx1
      have hml2 := more_len2 ys hy2.out 8 hy1
      obtain ⟨M1, hM1⟩ : ∃ x, moreB (xs.map gN) = x := ⟨_, rfl⟩
      obtain ⟨M2, hM2⟩ : ∃ x, moreB (ys.map gN) = x := ⟨_, rfl⟩
      obtain ⟨S0, hS0⟩ : ∃ x, cS 8 = x := ⟨_, rfl⟩
      rw [hM1] at hml ⊢
      rw [hM2] at hml2 ⊢
      rw [hS0] at hsl ⊢
      have HM1 := Lib.hid hM1
      have HM2 := Lib.hid hM2
      have HS0 := Lib.hid hS0
      clear hM1 hM2 hS0
      have hc4 : ∃ q : Nat, (c : Int).tmod 4 = q ∧ q < 4 := ⟨c % 4, by rw [Int.tmod_eq_emod_of_nonneg (by omega)]; omega, Nat.mod_lt _ (by omega)⟩
      obtain ⟨q, hq, hq4⟩ := hc4
      have hqq : q = 0 ∨ q = 1 ∨ q = 2 ∨ q = 3 := by omega
      by_cases h128 : 128 ≤ b
      · rcases hqq with rfl | rfl | rfl | rfl
        · have hapT2 : (ByteArray.mk M2.toArray) ++ ⟨#[32, 64, 111, 110, 101]⟩ = ⟨(M2 ++ (cAt true)).toArray⟩ := app_list M2 (cAt true)
          have hlT2 : (M2 ++ (cAt true)).length ≤ 110 := by rw [List.length_append]; unfold cAt; simp only [if_true, List.length_cons, List.length_nil]; omega
          generalize hT2 : M2 ++ (cAt true) = T2 at *
          have hapP1 : (ByteArray.mk #[99, 108, 97, 115, 115, 32, 111, 110, 101, 32, 91]) ++ ⟨M1.toArray⟩ = ⟨(cA1 ++ M1).toArray⟩ := app_list cA1 M1
          have hlP1 : (cA1 ++ M1).length ≤ 110 := by rw [List.length_append]; unfold cA1; simp only [List.length_cons, List.length_nil]; omega
          generalize hP1 : cA1 ++ M1 = P1 at *
          have hapF1 : (ByteArray.mk P1.toArray) ++ ⟨#[32, 93, 10]⟩ = ⟨(P1 ++ cZ).toArray⟩ := app_list P1 cZ
          have hlF1 : (P1 ++ cZ).length ≤ 120 := by rw [List.length_append]; unfold cZ; simp only [List.length_cons, List.length_nil]; omega
          generalize hF1 : P1 ++ cZ = F1 at *
          have hapP2 : (ByteArray.mk #[99, 108, 97, 115, 115, 32, 116, 119, 111, 32, 91]) ++ ⟨T2.toArray⟩ = ⟨(cA2 ++ T2).toArray⟩ := app_list cA2 T2
          have hlP2 : (cA2 ++ T2).length ≤ 130 := by rw [List.length_append]; unfold cA2; simp only [List.length_cons, List.length_nil]; omega
          generalize hP2 : cA2 ++ T2 = P2 at *
          have hapF2 : (ByteArray.mk P2.toArray) ++ ⟨#[32, 93, 10]⟩ = ⟨(P2 ++ cZ).toArray⟩ := app_list P2 cZ
          have hlF2 : (P2 ++ cZ).length ≤ 140 := by rw [List.length_append]; unfold cZ; simp only [List.length_cons, List.length_nil]; omega
          generalize hF2 : P2 ++ cZ = F2 at *
          have hapQ1 : (ByteArray.mk S0.toArray) ++ ⟨F1.toArray⟩ = ⟨(S0 ++ F1).toArray⟩ := app_list S0 F1
          have hlQ1 : (S0 ++ F1).length ≤ 420 := by rw [List.length_append]; omega
          generalize hQ1 : S0 ++ F1 = Q1 at *
          have hapQ2 : (ByteArray.mk Q1.toArray) ++ ⟨F2.toArray⟩ = ⟨(Q1 ++ F2).toArray⟩ := app_list Q1 F2
          have hlQ2 : (Q1 ++ F2).length ≤ 580 := by rw [List.length_append]; omega
          generalize hQ2 : Q1 ++ F2 = Q2 at *
          have hapQ3 : (ByteArray.mk Q2.toArray) ++ ⟨#[108, 111, 111, 107, 117, 112, 32, 99, 104, 97, 105, 110, 10, 114, 117, 108, 101, 32, 64, 116, 119, 111, 32, 91, 32, 64, 111, 110, 101, 32, 64, 116, 119, 111, 32, 93, 32, 47, 32, 64, 111, 110, 101, 32, 47, 32, 62, 10]⟩ = ⟨(Q2 ++ cR1).toArray⟩ := app_list Q2 cR1
          have hlQ3 : (Q2 ++ cR1).length ≤ 700 := by rw [List.length_append]; unfold cR1; simp only [List.length_cons, List.length_nil]; omega
          generalize hQ3 : Q2 ++ cR1 = Q3 at *
          have hp : parseL Q3 = .ok (clsF xs ys true) := by
            have h := cls0 xs ys true hx2.out hy2.out hx1 hy1
            rw [HM1.out, HS0.out] at h
            rw [HM2.out] at h
            rw [hT2, hP1, hF1, hP2, hF2, hQ1, hQ2, hQ3] at h
            exact h
          have HP := Lib.hid hp
          clear hp hT2 hP1 hF1 hP2 hF2 hQ1 hQ2 hQ3
          have hzr := hbr.size
          have hrx := TwoR.rd hT
          go_upto_region 39 with (at_builtin; refine app_l elInt rfl (.tmp 71) (.tmp 72) rfl wr w1.heap.size ys.length c2 A2 (cIs ys) wr.heap.size A1 xs.length c1 (cIs xs) rfl rfl hT.two hrx (oneI _) (by omega) hzr ?_; intro A5 c5 w5 h5 g5 l5; have hT5 := (hT.swap.push (zs := xs) (n := ys.length + xs.length) (by simp) g5 h5 l5).swap; have hbr5 := hbr.grown g5 hzr (fun g e => (hT.two.lt g e).1); clear h5 g5 l5)
          have HBX : Hid (Below w.heap.size w w5) := Lib.hid (HB1.out.trans (hbr5.mono hz1))
          have hf := parseFont_ok w5 Q3 (by omega) (HTB.out.below hbr5) (Nat.le_trans hnT HBX.out.size)
          rw [HP.out] at hf
          have HF := Lib.hid hf
          clear hf HP
          go_wp2_with fail
          refine HF.out.mono ?_
          rintro e w6 ⟨hb6, fc, rfl, hfn⟩
          obtain ⟨A11, d1, A12, d2, b3, o3, d3, A14, d4, A15, d5, A16, d6, A17, d7, A18, d8, b4, o4, d14, b5, o5, d15, b6, o6, d16, A27, d17, A28, d18, A29, d19, B1, e1, B2, e2, B3, e3, rfl, ⟨zb3, zb4, zb5, zb6⟩, q2, p0, p1, p2, p3, p4, p5, u1, u2, u3, v1, v2, v3⟩ := cls_fnt hfn
          have HB6 : Hid (Below w.heap.size w w6) := Lib.hid (HBX.out.trans (hb6.mono HBX.out.size))
          have hz6 := HB6.out.size
          have hT6 := hT5.below hb6
          have HT6 := Lib.hid hT6
          have HV1 := Lib.hid v1
          have HV2 := Lib.hid v2
          have HV3 := Lib.hid v3
          clear hb6 hfn HF hT6 v1 v2 v3 hT5 hT hrx
          go_upto_region 47 with fail
          generalize hW7 : (World.alloc (World.alloc w6 _) _) = W7
          have hk7 : Bk W7 (w6.heap.size + 1) 76 #[.slice (some ⟨b5, o5, none⟩) 2 d15, .slice (some ⟨b6, o6, none⟩) 1 d16, .slice A27 0 d17, .slice A28 0 d18, .slice A29 0 d19, .int .i64 0] := by
            rw [← hW7]
            have h := Bk.new (w6.alloc (.cells #[.int .i64 0, .slice A11 (gGs 8).length d1, .slice A12 0 d2, .slice (some ⟨b3, o3, none⟩) 1 d3, .slice A14 0 d4, .slice A15 0 d5, .slice A16 0 d6, .slice A17 0 d7, .slice A18 0 d8] tFnt)) 76 #[.slice (some ⟨b5, o5, none⟩) 2 d15, .slice (some ⟨b6, o6, none⟩) 1 d16, .slice A27 0 d17, .slice A28 0 d18, .slice A29 0 d19, .int .i64 0]
            simpa using h
          have hb7 : Below w6.heap.size w6 W7 := by rw [← hW7]; exact ((Below.refl _ _).alloc (Nat.le_refl _) _).alloc (by simp) _
          have hYv : yAll xs ys true = (ys ++ xs) := rfl
          rw [hYv] at u1 u2 HV1 HV2
          have hof1 := fun W h => of_ok W A5 (ys.length + xs.length) c5 (ys ++ xs) h (by omega)
          have hun := fun W h1 h2 => union_ok W A1 A5 xs.length (ys.length + xs.length) c1 c5 xs (ys ++ xs) h1 h2 (by omega) (by omega)
          have hof3 := fun W h => of_ok W A1 xs.length c1 xs h (by omega)
          have hlr1 := Nat.le_trans (setOf_len (ys ++ xs)) (show (ys ++ xs).length ≤ 1000000000 by rw [List.length_append]; omega)
          have hlr2 := Nat.le_trans (setOf_len (xs ++ (ys ++ xs))) (show (xs ++ (ys ++ xs)).length ≤ 1000000000 by rw [List.length_append, List.length_append]; omega)
          have hlr3 := Nat.le_trans (setOf_len xs) (show xs.length ≤ 1000000000 by omega)
          generalize setOf (ys ++ xs) = R1 at *
          generalize setOf (xs ++ (ys ++ xs)) = R2 at *
          generalize setOf xs = R3 at *
          have hz7 : w6.heap.size ≤ W7.heap.size := hb7.size
          have hT7 := HT6.out.below hb7
          have hrx7 : Rd W7 W7.heap.size A1 xs.length 1 (cIs xs) := TwoR.rd hT7
          have hry7 : Rd W7 W7.heap.size A5 (ys.length + xs.length) 1 (cIs (ys ++ xs)) := by have h := TwoR.rd hT7.swap; simpa using h
          have HK : ∀ {n : Nat} {A : Option Addr} {cs : List Value} {W : World}, Rd W7 W7.heap.size A n 1 cs → Below W7.heap.size W7 W → Rd W W.heap.size A n 1 cs := fun h hb => (h.below hb (Nat.le_refl _)).mono hb.size
          have r1 := (HV1.out.below hb7 (Nat.le_refl _)).mono hz7
          have r2 := (HV2.out.below hb7 (Nat.le_refl _)).mono hz7
          have r3 := (HV3.out.below hb7 (Nat.le_refl _)).mono hz7
          have y1 := hk7.lt
          have y5 := Nat.lt_of_lt_of_le zb5 hz7
          have y6 := Nat.lt_of_lt_of_le zb6 hz7
          have hS7 : W7.cell? ⟨w6.heap.size + 1, 0, none⟩ = some (.slice (some ⟨b5, o5, none⟩) 2 d15) ∧ W7.cell? ⟨w6.heap.size + 1, 1, none⟩ = some (.slice (some ⟨b6, o6, none⟩) 1 d16) ∧ W7.cell? ⟨b5, o5, none⟩ = some (.slice B1 R1.length e1) ∧ W7.cell? ⟨b5, o5 + 1, none⟩ = some (.slice B2 R2.length e2) ∧ W7.cell? ⟨b6, o6, none⟩ = some (.slice B3 R3.length e3) := ⟨hk7.cell 0, hk7.cell 1, ((bcell hb7).1 _ _ zb5).trans u1, ((bcell hb7).1 _ _ zb5).trans u2, ((bcell hb7).1 _ _ zb6).trans u3⟩
          have hS7d : W7.drew.cell? ⟨w6.heap.size + 1, 0, none⟩ = some (.slice (some ⟨b5, o5, none⟩) 2 d15) ∧ W7.drew.cell? ⟨w6.heap.size + 1, 1, none⟩ = some (.slice (some ⟨b6, o6, none⟩) 1 d16) ∧ W7.drew.cell? ⟨b5, o5, none⟩ = some (.slice B1 R1.length e1) ∧ W7.drew.cell? ⟨b5, o5 + 1, none⟩ = some (.slice B2 R2.length e2) ∧ W7.drew.cell? ⟨b6, o6, none⟩ = some (.slice B3 R3.length e3) := hS7
          have hd7 : Below W7.heap.size W7 W7.drew := (Below.refl _ _).drew
          have HB7 : Hid (Below w.heap.size w W7) := Lib.hid (HB6.out.trans (hb7.mono hz6))
          have HS : Hid (∀ W, Below W7.heap.size W7 W → W.cell? ⟨w6.heap.size + 1, 0, none⟩ = some (.slice (some ⟨b5, o5, none⟩) 2 d15) ∧ W.cell? ⟨w6.heap.size + 1, 1, none⟩ = some (.slice (some ⟨b6, o6, none⟩) 1 d16) ∧ W.cell? ⟨b5, o5, none⟩ = some (.slice B1 R1.length e1) ∧ W.cell? ⟨b5, o5 + 1, none⟩ = some (.slice B2 R2.length e2) ∧ W.cell? ⟨b6, o6, none⟩ = some (.slice B3 R3.length e3)) := Lib.hid (fun W hb => ⟨((bcell hb).1 _ _ y1).trans hS7.1, ((bcell hb).1 _ _ y1).trans hS7.2.1, ((bcell hb).1 _ _ y5).trans hS7.2.2.1, ((bcell hb).1 _ _ y5).trans hS7.2.2.2.1, ((bcell hb).1 _ _ y6).trans hS7.2.2.2.2⟩)
          have hsub : ∀ {wa wb : World}, Below wa.heap.size wa wb → Below W7.heap.size W7 wa → Below W7.heap.size W7 wb := fun h k => k.trans (h.mono k.size)
          have H1 := Lib.hid hof1
          have H2 := Lib.hid hun
          have H3 := Lib.hid hof3
          have hl1 := r1.1
          have hl2 := r2.1
          have hl3 := r3.1
          have RR1 := Lib.hid r1
          have RR2 := Lib.hid r2
          have RR3 := Lib.hid r3
          have RX := Lib.hid hrx7
          have RY := Lib.hid hry7
          have tk1 : True := trivial
          have tk2 : True := trivial
          have tk3 : True := trivial
          have tk4 : True := trivial
          have tk5 : True := trivial
          have tk6 : True := trivial
          clear hof1 hun hof3 r1 r2 r3 hrx7 hry7 u1 u2 u3 hk7 hb7 hT7 hW7 HT6 HV1 HV2 HV3 q2 p0 p1 p2 p3 p4 p5 hS7 hYv hl1 hl2 hl3
          go_region_held3 (fun w' => w'.cell? ⟨w6.heap.size + 1, 0, none⟩ = some (.slice (some ⟨b5, o5, none⟩) 2 d15) ∧ w'.cell? ⟨w6.heap.size + 1, 1, none⟩ = some (.slice (some ⟨b6, o6, none⟩) 1 d16) ∧ w'.cell? ⟨b5, o5, none⟩ = some (.slice B1 R1.length e1) ∧ w'.cell? ⟨b5, o5 + 1, none⟩ = some (.slice B2 R2.length e2) ∧ w'.cell? ⟨b6, o6, none⟩ = some (.slice B3 R3.length e3))
            (first | with_reducible exact hS7d | with_reducible exact hS8 | with_reducible exact hS9 | with_reducible exact hS10 | with_reducible exact hS11 | with_reducible exact hS12 | with_reducible exact hS13)
            (first
              | (go_at_call 31; have _t := tk1; refine (H1.out _ (HK RY.out hd7)).mono ?_; rintro e w8 ⟨⟨A8, c8, rfl, hr8⟩, hb8'⟩; have hb8 := hsub hb8' hd7; have hS8 := HS.out _ hb8; clear _t tk1)
              | (go_at_call 32; have _t := tk2; refine (same06_self _ B1 A8 R1.length R1.length e1 c8 R1 (HK RR1.out hb8) hr8 hlr1).mono ?_; rintro e w9 ⟨rfl, hb9'⟩; have hb9 := hsub hb9' hb8; have hS9 := HS.out _ hb9; clear _t tk2)
              | (go_at_call 33; have _t := tk3; refine (H2.out _ (HK RX.out hb9) (HK RY.out hb9)).mono ?_; rintro e w10 ⟨⟨A10, c10, rfl, hr10⟩, hb10'⟩; have hb10 := hsub hb10' hb9; have hS10 := HS.out _ hb10; clear _t tk3)
              | (go_at_call 32; have _t := tk4; refine (same06_self _ B2 A10 R2.length R2.length e2 c10 R2 (HK RR2.out hb10) hr10 hlr2).mono ?_; rintro e w11 ⟨rfl, hb11'⟩; have hb11 := hsub hb11' hb10; have hS11 := HS.out _ hb11; clear _t tk4)
              | (go_at_call 31; have _t := tk5; refine (H3.out _ (HK RX.out hb11)).mono ?_; rintro e w12 ⟨⟨A32, c12, rfl, hr12⟩, hb12'⟩; have hb12 := hsub hb12' hb11; have hS12 := HS.out _ hb12; clear _t tk5)
              | (go_at_call 32; have _t := tk6; refine (same06_self _ B3 A32 R3.length R3.length e3 c12 R3 (HK RR3.out hb12) hr12 hlr3).mono ?_; rintro e w13 ⟨rfl, hb13'⟩; have hb13 := hsub hb13' hb12; have hS13 := HS.out _ hb13; clear _t tk6))
          all_goals
            go_wp2_with fail
            go_ret
            exact ⟨rfl, HB7.out.trans (hb13.mono HB7.out.size)⟩
        · have hapT2 : (ByteArray.mk M2.toArray) ++ ⟨#[32, 64, 111, 110, 101]⟩ = ⟨(M2 ++ (cAt true)).toArray⟩ := app_list M2 (cAt true)
          have hlT2 : (M2 ++ (cAt true)).length ≤ 110 := by rw [List.length_append]; unfold cAt; simp only [if_true, List.length_cons, List.length_nil]; omega
          generalize hT2 : M2 ++ (cAt true) = T2 at *
          have hapP1 : (ByteArray.mk #[99, 108, 97, 115, 115, 32, 111, 110, 101, 32, 91]) ++ ⟨M1.toArray⟩ = ⟨(cA1 ++ M1).toArray⟩ := app_list cA1 M1
          have hlP1 : (cA1 ++ M1).length ≤ 110 := by rw [List.length_append]; unfold cA1; simp only [List.length_cons, List.length_nil]; omega
          generalize hP1 : cA1 ++ M1 = P1 at *
          have hapF1 : (ByteArray.mk P1.toArray) ++ ⟨#[32, 93, 10]⟩ = ⟨(P1 ++ cZ).toArray⟩ := app_list P1 cZ
          have hlF1 : (P1 ++ cZ).length ≤ 120 := by rw [List.length_append]; unfold cZ; simp only [List.length_cons, List.length_nil]; omega
          generalize hF1 : P1 ++ cZ = F1 at *
          have hapP2 : (ByteArray.mk #[99, 108, 97, 115, 115, 32, 116, 119, 111, 32, 91]) ++ ⟨T2.toArray⟩ = ⟨(cA2 ++ T2).toArray⟩ := app_list cA2 T2
          have hlP2 : (cA2 ++ T2).length ≤ 130 := by rw [List.length_append]; unfold cA2; simp only [List.length_cons, List.length_nil]; omega
          generalize hP2 : cA2 ++ T2 = P2 at *
          have hapF2 : (ByteArray.mk P2.toArray) ++ ⟨#[32, 93, 10]⟩ = ⟨(P2 ++ cZ).toArray⟩ := app_list P2 cZ
          have hlF2 : (P2 ++ cZ).length ≤ 140 := by rw [List.length_append]; unfold cZ; simp only [List.length_cons, List.length_nil]; omega
          generalize hF2 : P2 ++ cZ = F2 at *
          have hapFF : (ByteArray.mk F1.toArray) ++ ⟨F1.toArray⟩ = ⟨(F1 ++ F1).toArray⟩ := app_list F1 F1
          have hlFF : (F1 ++ F1).length ≤ 240 := by rw [List.length_append]; omega
          generalize hFF : F1 ++ F1 = FF at *
          have hapQ1 : (ByteArray.mk S0.toArray) ++ ⟨FF.toArray⟩ = ⟨(S0 ++ FF).toArray⟩ := app_list S0 FF
          have hlQ1 : (S0 ++ FF).length ≤ 420 := by rw [List.length_append]; omega
          generalize hQ1 : S0 ++ FF = Q1 at *
          have hapQ2 : (ByteArray.mk Q1.toArray) ++ ⟨F2.toArray⟩ = ⟨(Q1 ++ F2).toArray⟩ := app_list Q1 F2
          have hlQ2 : (Q1 ++ F2).length ≤ 580 := by rw [List.length_append]; omega
          generalize hQ2 : Q1 ++ F2 = Q2 at *
          have hapQ3 : (ByteArray.mk Q2.toArray) ++ ⟨#[108, 111, 111, 107, 117, 112, 32, 99, 104, 97, 105, 110, 10, 114, 117, 108, 101, 32, 64, 116, 119, 111, 32, 91, 32, 64, 111, 110, 101, 32, 64, 116, 119, 111, 32, 93, 32, 47, 32, 64, 111, 110, 101, 32, 47, 32, 62, 10]⟩ = ⟨(Q2 ++ cR1).toArray⟩ := app_list Q2 cR1
          have hlQ3 : (Q2 ++ cR1).length ≤ 700 := by rw [List.length_append]; unfold cR1; simp only [List.length_cons, List.length_nil]; omega
          generalize hQ3 : Q2 ++ cR1 = Q3 at *
          have hp : parseL Q3 = .error (10, 24) := by
            have h := cls1 xs ys true hx2.out hy2.out hx1
            rw [HM1.out, HS0.out] at h
            rw [HM2.out] at h
            rw [hT2, hP1, hF1, hP2, hF2, hFF, hQ1, hQ2, hQ3] at h
            exact h
          have HP := Lib.hid hp
          clear hp hT2 hP1 hF1 hP2 hF2 hFF hQ1 hQ2 hQ3
          have hzr := hbr.size
          have hrx := TwoR.rd hT
          go_upto_region 39 with (at_builtin; refine app_l elInt rfl (.tmp 71) (.tmp 72) rfl wr w1.heap.size ys.length c2 A2 (cIs ys) wr.heap.size A1 xs.length c1 (cIs xs) rfl rfl hT.two hrx (oneI _) (by omega) hzr ?_; intro A5 c5 w5 h5 g5 l5; have hT5 := (hT.swap.push (zs := xs) (n := ys.length + xs.length) (by simp) g5 h5 l5).swap; have hbr5 := hbr.grown g5 hzr (fun g e => (hT.two.lt g e).1); clear h5 g5 l5)
          have HBX : Hid (Below w.heap.size w w5) := Lib.hid (HB1.out.trans (hbr5.mono hz1))
          have hf := parseFont_ok w5 Q3 (by omega) (HTB.out.below hbr5) (Nat.le_trans hnT HBX.out.size)
          rw [HP.out] at hf
          have HF := Lib.hid hf
          clear hf HP
          go_wp2_with fail
          refine HF.out.mono ?_
          rintro e w6 ⟨hb6, rfl⟩
          have HB6 : Hid (Below w.heap.size w w6) := Lib.hid (HBX.out.trans (hb6.mono HBX.out.size))
          have hz6 := HB6.out.size
          clear hb6 HF
          go_wp2_with fail
          go_ret
          exact ⟨rfl, HB6.out.alloc hz6 _⟩
        · have hapT2 : (ByteArray.mk M2.toArray) ++ ⟨#[32, 64, 111, 110, 101]⟩ = ⟨(M2 ++ (cAt true)).toArray⟩ := app_list M2 (cAt true)
          have hlT2 : (M2 ++ (cAt true)).length ≤ 110 := by rw [List.length_append]; unfold cAt; simp only [if_true, List.length_cons, List.length_nil]; omega
          generalize hT2 : M2 ++ (cAt true) = T2 at *
          have hapP1 : (ByteArray.mk #[99, 108, 97, 115, 115, 32, 111, 110, 101, 32, 91]) ++ ⟨M1.toArray⟩ = ⟨(cA1 ++ M1).toArray⟩ := app_list cA1 M1
          have hlP1 : (cA1 ++ M1).length ≤ 110 := by rw [List.length_append]; unfold cA1; simp only [List.length_cons, List.length_nil]; omega
          generalize hP1 : cA1 ++ M1 = P1 at *
          have hapF1 : (ByteArray.mk P1.toArray) ++ ⟨#[32, 93, 10]⟩ = ⟨(P1 ++ cZ).toArray⟩ := app_list P1 cZ
          have hlF1 : (P1 ++ cZ).length ≤ 120 := by rw [List.length_append]; unfold cZ; simp only [List.length_cons, List.length_nil]; omega
          generalize hF1 : P1 ++ cZ = F1 at *
          have hapP2 : (ByteArray.mk #[99, 108, 97, 115, 115, 32, 116, 119, 111, 32, 91]) ++ ⟨T2.toArray⟩ = ⟨(cA2 ++ T2).toArray⟩ := app_list cA2 T2
          have hlP2 : (cA2 ++ T2).length ≤ 130 := by rw [List.length_append]; unfold cA2; simp only [List.length_cons, List.length_nil]; omega
          generalize hP2 : cA2 ++ T2 = P2 at *
          have hapF2 : (ByteArray.mk P2.toArray) ++ ⟨#[32, 93, 10]⟩ = ⟨(P2 ++ cZ).toArray⟩ := app_list P2 cZ
          have hlF2 : (P2 ++ cZ).length ≤ 140 := by rw [List.length_append]; unfold cZ; simp only [List.length_cons, List.length_nil]; omega
          generalize hF2 : P2 ++ cZ = F2 at *
          have hapQ1 : (ByteArray.mk S0.toArray) ++ ⟨F1.toArray⟩ = ⟨(S0 ++ F1).toArray⟩ := app_list S0 F1
          have hlQ1 : (S0 ++ F1).length ≤ 420 := by rw [List.length_append]; omega
          generalize hQ1 : S0 ++ F1 = Q1 at *
          have hapQ2 : (ByteArray.mk Q1.toArray) ++ ⟨F2.toArray⟩ = ⟨(Q1 ++ F2).toArray⟩ := app_list Q1 F2
          have hlQ2 : (Q1 ++ F2).length ≤ 580 := by rw [List.length_append]; omega
          generalize hQ2 : Q1 ++ F2 = Q2 at *
          have hapQ3 : (ByteArray.mk Q2.toArray) ++ ⟨#[108, 111, 111, 107, 117, 112, 32, 99, 104, 97, 105, 110, 10, 114, 117, 108, 101, 32, 64, 116, 104, 114, 101, 101, 32, 47, 32, 64, 111, 110, 101, 32, 47, 32, 62, 10]⟩ = ⟨(Q2 ++ cR2).toArray⟩ := app_list Q2 cR2
          have hlQ3 : (Q2 ++ cR2).length ≤ 700 := by rw [List.length_append]; unfold cR2; simp only [List.length_cons, List.length_nil]; omega
          generalize hQ3 : Q2 ++ cR2 = Q3 at *
          have hp : parseL Q3 = .error (12, 23) := by
            have h := cls2 xs ys true hx2.out hy2.out hx1 hy1
            rw [HM1.out, HS0.out] at h
            rw [HM2.out] at h
            rw [hT2, hP1, hF1, hP2, hF2, hQ1, hQ2, hQ3] at h
            exact h
          have HP := Lib.hid hp
          clear hp hT2 hP1 hF1 hP2 hF2 hQ1 hQ2 hQ3
          have hzr := hbr.size
          have hrx := TwoR.rd hT
          go_upto_region 39 with (at_builtin; refine app_l elInt rfl (.tmp 71) (.tmp 72) rfl wr w1.heap.size ys.length c2 A2 (cIs ys) wr.heap.size A1 xs.length c1 (cIs xs) rfl rfl hT.two hrx (oneI _) (by omega) hzr ?_; intro A5 c5 w5 h5 g5 l5; have hT5 := (hT.swap.push (zs := xs) (n := ys.length + xs.length) (by simp) g5 h5 l5).swap; have hbr5 := hbr.grown g5 hzr (fun g e => (hT.two.lt g e).1); clear h5 g5 l5)
          have HBX : Hid (Below w.heap.size w w5) := Lib.hid (HB1.out.trans (hbr5.mono hz1))
          have hf := parseFont_ok w5 Q3 (by omega) (HTB.out.below hbr5) (Nat.le_trans hnT HBX.out.size)
          rw [HP.out] at hf
          have HF := Lib.hid hf
          clear hf HP
          go_wp2_with fail
          refine HF.out.mono ?_
          rintro e w6 ⟨hb6, rfl⟩
          have HB6 : Hid (Below w.heap.size w w6) := Lib.hid (HBX.out.trans (hb6.mono HBX.out.size))
          have hz6 := HB6.out.size
          clear hb6 HF
          go_wp2_with fail
          go_ret
          exact ⟨rfl, HB6.out.alloc hz6 _⟩
        · have hapT2 : (ByteArray.mk M2.toArray) ++ ⟨#[32, 64, 111, 110, 101]⟩ = ⟨(M2 ++ (cAt true)).toArray⟩ := app_list M2 (cAt true)
          have hlT2 : (M2 ++ (cAt true)).length ≤ 110 := by rw [List.length_append]; unfold cAt; simp only [if_true, List.length_cons, List.length_nil]; omega
          generalize hT2 : M2 ++ (cAt true) = T2 at *
          have hapP1 : (ByteArray.mk #[99, 108, 97, 115, 115, 32, 111, 110, 101, 32, 91]) ++ ⟨M1.toArray⟩ = ⟨(cA1 ++ M1).toArray⟩ := app_list cA1 M1
          have hlP1 : (cA1 ++ M1).length ≤ 110 := by rw [List.length_append]; unfold cA1; simp only [List.length_cons, List.length_nil]; omega
          generalize hP1 : cA1 ++ M1 = P1 at *
          have hapF1 : (ByteArray.mk P1.toArray) ++ ⟨#[32, 93, 10]⟩ = ⟨(P1 ++ cZ).toArray⟩ := app_list P1 cZ
          have hlF1 : (P1 ++ cZ).length ≤ 120 := by rw [List.length_append]; unfold cZ; simp only [List.length_cons, List.length_nil]; omega
          generalize hF1 : P1 ++ cZ = F1 at *
          have hapP2 : (ByteArray.mk #[99, 108, 97, 115, 115, 32, 116, 119, 111, 32, 91]) ++ ⟨T2.toArray⟩ = ⟨(cA2 ++ T2).toArray⟩ := app_list cA2 T2
          have hlP2 : (cA2 ++ T2).length ≤ 130 := by rw [List.length_append]; unfold cA2; simp only [List.length_cons, List.length_nil]; omega
          generalize hP2 : cA2 ++ T2 = P2 at *
          have hapF2 : (ByteArray.mk P2.toArray) ++ ⟨#[32, 93, 10]⟩ = ⟨(P2 ++ cZ).toArray⟩ := app_list P2 cZ
          have hlF2 : (P2 ++ cZ).length ≤ 140 := by rw [List.length_append]; unfold cZ; simp only [List.length_cons, List.length_nil]; omega
          generalize hF2 : P2 ++ cZ = F2 at *
          have hapQ1 : (ByteArray.mk S0.toArray) ++ ⟨F1.toArray⟩ = ⟨(S0 ++ F1).toArray⟩ := app_list S0 F1
          have hlQ1 : (S0 ++ F1).length ≤ 420 := by rw [List.length_append]; omega
          generalize hQ1 : S0 ++ F1 = Q1 at *
          have hapQ2 : (ByteArray.mk Q1.toArray) ++ ⟨#[99, 108, 97, 115, 115, 32, 116, 119, 111, 32, 64, 116, 119, 111, 10]⟩ = ⟨(Q1 ++ cSB).toArray⟩ := app_list Q1 cSB
          have hlQ2 : (Q1 ++ cSB).length ≤ 580 := by rw [List.length_append]; unfold cSB; simp only [List.length_cons, List.length_nil]; omega
          generalize hQ2 : Q1 ++ cSB = Q2 at *
          have hapQ3 : (ByteArray.mk Q2.toArray) ++ ⟨#[108, 111, 111, 107, 117, 112, 32, 99, 104, 97, 105, 110, 10, 114, 117, 108, 101, 32, 64, 116, 119, 111, 32, 91, 32, 64, 111, 110, 101, 32, 64, 116, 119, 111, 32, 93, 32, 47, 32, 64, 111, 110, 101, 32, 47, 32, 62, 10]⟩ = ⟨(Q2 ++ cR1).toArray⟩ := app_list Q2 cR1
          have hlQ3 : (Q2 ++ cR1).length ≤ 700 := by rw [List.length_append]; unfold cR1; simp only [List.length_cons, List.length_nil]; omega
          generalize hQ3 : Q2 ++ cR1 = Q3 at *
          have hp : parseL Q3 = .error (10, 23) := by
            have h := cls3 xs hx2.out hx1
            rw [HM1.out, HS0.out] at h
            rw [hP1, hF1, hQ1, hQ2, hQ3] at h
            exact h
          have HP := Lib.hid hp
          clear hp hT2 hP1 hF1 hP2 hF2 hQ1 hQ2 hQ3
          have hzr := hbr.size
          have hrx := TwoR.rd hT
          go_upto_region 39 with (at_builtin; refine app_l elInt rfl (.tmp 71) (.tmp 72) rfl wr w1.heap.size ys.length c2 A2 (cIs ys) wr.heap.size A1 xs.length c1 (cIs xs) rfl rfl hT.two hrx (oneI _) (by omega) hzr ?_; intro A5 c5 w5 h5 g5 l5; have hT5 := (hT.swap.push (zs := xs) (n := ys.length + xs.length) (by simp) g5 h5 l5).swap; have hbr5 := hbr.grown g5 hzr (fun g e => (hT.two.lt g e).1); clear h5 g5 l5)
          have HBX : Hid (Below w.heap.size w w5) := Lib.hid (HB1.out.trans (hbr5.mono hz1))
          have hf := parseFont_ok w5 Q3 (by omega) (HTB.out.below hbr5) (Nat.le_trans hnT HBX.out.size)
          rw [HP.out] at hf
          have HF := Lib.hid hf
          clear hf HP
          go_wp2_with fail
          refine HF.out.mono ?_
          rintro e w6 ⟨hb6, rfl⟩
          have HB6 : Hid (Below w.heap.size w w6) := Lib.hid (HBX.out.trans (hb6.mono HBX.out.size))
          have hz6 := HB6.out.size
          clear hb6 HF
          go_wp2_with fail
          go_ret
          exact ⟨rfl, HB6.out.alloc hz6 _⟩
      · rcases hqq with rfl | rfl | rfl | rfl
        · have hapP1 : (ByteArray.mk #[99, 108, 97, 115, 115, 32, 111, 110, 101, 32, 91]) ++ ⟨M1.toArray⟩ = ⟨(cA1 ++ M1).toArray⟩ := app_list cA1 M1
          have hlP1 : (cA1 ++ M1).length ≤ 110 := by rw [List.length_append]; unfold cA1; simp only [List.length_cons, List.length_nil]; omega
          generalize hP1 : cA1 ++ M1 = P1 at *
          have hapF1 : (ByteArray.mk P1.toArray) ++ ⟨#[32, 93, 10]⟩ = ⟨(P1 ++ cZ).toArray⟩ := app_list P1 cZ
          have hlF1 : (P1 ++ cZ).length ≤ 120 := by rw [List.length_append]; unfold cZ; simp only [List.length_cons, List.length_nil]; omega
          generalize hF1 : P1 ++ cZ = F1 at *
          have hapP2 : (ByteArray.mk #[99, 108, 97, 115, 115, 32, 116, 119, 111, 32, 91]) ++ ⟨M2.toArray⟩ = ⟨(cA2 ++ M2).toArray⟩ := app_list cA2 M2
          have hlP2 : (cA2 ++ M2).length ≤ 130 := by rw [List.length_append]; unfold cA2; simp only [List.length_cons, List.length_nil]; omega
          generalize hP2 : cA2 ++ M2 = P2 at *
          have hapF2 : (ByteArray.mk P2.toArray) ++ ⟨#[32, 93, 10]⟩ = ⟨(P2 ++ cZ).toArray⟩ := app_list P2 cZ
          have hlF2 : (P2 ++ cZ).length ≤ 140 := by rw [List.length_append]; unfold cZ; simp only [List.length_cons, List.length_nil]; omega
          generalize hF2 : P2 ++ cZ = F2 at *
          have hapQ1 : (ByteArray.mk S0.toArray) ++ ⟨F1.toArray⟩ = ⟨(S0 ++ F1).toArray⟩ := app_list S0 F1
          have hlQ1 : (S0 ++ F1).length ≤ 420 := by rw [List.length_append]; omega
          generalize hQ1 : S0 ++ F1 = Q1 at *
          have hapQ2 : (ByteArray.mk Q1.toArray) ++ ⟨F2.toArray⟩ = ⟨(Q1 ++ F2).toArray⟩ := app_list Q1 F2
          have hlQ2 : (Q1 ++ F2).length ≤ 580 := by rw [List.length_append]; omega
          generalize hQ2 : Q1 ++ F2 = Q2 at *
          have hapQ3 : (ByteArray.mk Q2.toArray) ++ ⟨#[108, 111, 111, 107, 117, 112, 32, 99, 104, 97, 105, 110, 10, 114, 117, 108, 101, 32, 64, 116, 119, 111, 32, 91, 32, 64, 111, 110, 101, 32, 64, 116, 119, 111, 32, 93, 32, 47, 32, 64, 111, 110, 101, 32, 47, 32, 62, 10]⟩ = ⟨(Q2 ++ cR1).toArray⟩ := app_list Q2 cR1
          have hlQ3 : (Q2 ++ cR1).length ≤ 700 := by rw [List.length_append]; unfold cR1; simp only [List.length_cons, List.length_nil]; omega
          generalize hQ3 : Q2 ++ cR1 = Q3 at *
          have hp : parseL Q3 = .ok (clsF xs ys false) := by
            have h := cls0 xs ys false hx2.out hy2.out hx1 hy1
            rw [HM1.out, HS0.out] at h
            rw [HM2.out] at h
            rw [show cAt false = [] from rfl, List.append_nil] at h
            rw [hP1, hF1, hP2, hF2, hQ1, hQ2, hQ3] at h
            exact h
          have HP := Lib.hid hp
          clear hp hP1 hF1 hP2 hF2 hQ1 hQ2 hQ3
          have hzr := hbr.size
          go_upto_region 39 with fail
          have HBX : Hid (Below w.heap.size w wr) := Lib.hid (HB1.out.trans (hbr.mono hz1))
          have hf := parseFont_ok wr Q3 (by omega) (HTB.out.below hbr) (Nat.le_trans hnT HBX.out.size)
          rw [HP.out] at hf
          have HF := Lib.hid hf
          clear hf HP
          go_wp2_with fail
          refine HF.out.mono ?_
          rintro e w6 ⟨hb6, fc, rfl, hfn⟩
          obtain ⟨A11, d1, A12, d2, b3, o3, d3, A14, d4, A15, d5, A16, d6, A17, d7, A18, d8, b4, o4, d14, b5, o5, d15, b6, o6, d16, A27, d17, A28, d18, A29, d19, B1, e1, B2, e2, B3, e3, rfl, ⟨zb3, zb4, zb5, zb6⟩, q2, p0, p1, p2, p3, p4, p5, u1, u2, u3, v1, v2, v3⟩ := cls_fnt hfn
          have HB6 : Hid (Below w.heap.size w w6) := Lib.hid (HBX.out.trans (hb6.mono HBX.out.size))
          have hz6 := HB6.out.size
          have hT6 := hT.below hb6
          have HT6 := Lib.hid hT6
          have HV1 := Lib.hid v1
          have HV2 := Lib.hid v2
          have HV3 := Lib.hid v3
          clear hb6 hfn HF hT6 v1 v2 v3 hT
          go_upto_region 47 with fail
          generalize hW7 : (World.alloc (World.alloc w6 _) _) = W7
          have hk7 : Bk W7 (w6.heap.size + 1) 76 #[.slice (some ⟨b5, o5, none⟩) 2 d15, .slice (some ⟨b6, o6, none⟩) 1 d16, .slice A27 0 d17, .slice A28 0 d18, .slice A29 0 d19, .int .i64 0] := by
            rw [← hW7]
            have h := Bk.new (w6.alloc (.cells #[.int .i64 0, .slice A11 (gGs 8).length d1, .slice A12 0 d2, .slice (some ⟨b3, o3, none⟩) 1 d3, .slice A14 0 d4, .slice A15 0 d5, .slice A16 0 d6, .slice A17 0 d7, .slice A18 0 d8] tFnt)) 76 #[.slice (some ⟨b5, o5, none⟩) 2 d15, .slice (some ⟨b6, o6, none⟩) 1 d16, .slice A27 0 d17, .slice A28 0 d18, .slice A29 0 d19, .int .i64 0]
            simpa using h
          have hb7 : Below w6.heap.size w6 W7 := by rw [← hW7]; exact ((Below.refl _ _).alloc (Nat.le_refl _) _).alloc (by simp) _
          have hYv : yAll xs ys false = ys := (by simp [yAll])
          rw [hYv] at u1 u2 HV1 HV2
          have hof1 := fun W h => of_ok W A2 ys.length c2 ys h (by omega)
          have hun := fun W h1 h2 => union_ok W A1 A2 xs.length ys.length c1 c2 xs ys h1 h2 (by omega) (by omega)
          have hof3 := fun W h => of_ok W A1 xs.length c1 xs h (by omega)
          have hlr1 := Nat.le_trans (setOf_len ys) (show ys.length ≤ 1000000000 by omega)
          have hlr2 := Nat.le_trans (setOf_len (xs ++ ys)) (show (xs ++ ys).length ≤ 1000000000 by rw [List.length_append]; omega)
          have hlr3 := Nat.le_trans (setOf_len xs) (show xs.length ≤ 1000000000 by omega)
          generalize setOf ys = R1 at *
          generalize setOf (xs ++ ys) = R2 at *
          generalize setOf xs = R3 at *
          have hz7 : w6.heap.size ≤ W7.heap.size := hb7.size
          have hT7 := HT6.out.below hb7
          have hrx7 : Rd W7 W7.heap.size A1 xs.length 1 (cIs xs) := TwoR.rd hT7
          have hry7 : Rd W7 W7.heap.size A2 ys.length 1 (cIs ys) := TwoR.rd hT7.swap
          have HK : ∀ {n : Nat} {A : Option Addr} {cs : List Value} {W : World}, Rd W7 W7.heap.size A n 1 cs → Below W7.heap.size W7 W → Rd W W.heap.size A n 1 cs := fun h hb => (h.below hb (Nat.le_refl _)).mono hb.size
          have r1 := (HV1.out.below hb7 (Nat.le_refl _)).mono hz7
          have r2 := (HV2.out.below hb7 (Nat.le_refl _)).mono hz7
          have r3 := (HV3.out.below hb7 (Nat.le_refl _)).mono hz7
          have y1 := hk7.lt
          have y5 := Nat.lt_of_lt_of_le zb5 hz7
          have y6 := Nat.lt_of_lt_of_le zb6 hz7
          have hS7 : W7.cell? ⟨w6.heap.size + 1, 0, none⟩ = some (.slice (some ⟨b5, o5, none⟩) 2 d15) ∧ W7.cell? ⟨w6.heap.size + 1, 1, none⟩ = some (.slice (some ⟨b6, o6, none⟩) 1 d16) ∧ W7.cell? ⟨b5, o5, none⟩ = some (.slice B1 R1.length e1) ∧ W7.cell? ⟨b5, o5 + 1, none⟩ = some (.slice B2 R2.length e2) ∧ W7.cell? ⟨b6, o6, none⟩ = some (.slice B3 R3.length e3) := ⟨hk7.cell 0, hk7.cell 1, ((bcell hb7).1 _ _ zb5).trans u1, ((bcell hb7).1 _ _ zb5).trans u2, ((bcell hb7).1 _ _ zb6).trans u3⟩
          have hS7d : W7.drew.cell? ⟨w6.heap.size + 1, 0, none⟩ = some (.slice (some ⟨b5, o5, none⟩) 2 d15) ∧ W7.drew.cell? ⟨w6.heap.size + 1, 1, none⟩ = some (.slice (some ⟨b6, o6, none⟩) 1 d16) ∧ W7.drew.cell? ⟨b5, o5, none⟩ = some (.slice B1 R1.length e1) ∧ W7.drew.cell? ⟨b5, o5 + 1, none⟩ = some (.slice B2 R2.length e2) ∧ W7.drew.cell? ⟨b6, o6, none⟩ = some (.slice B3 R3.length e3) := hS7
          have hd7 : Below W7.heap.size W7 W7.drew := (Below.refl _ _).drew
          have HB7 : Hid (Below w.heap.size w W7) := Lib.hid (HB6.out.trans (hb7.mono hz6))
          have HS : Hid (∀ W, Below W7.heap.size W7 W → W.cell? ⟨w6.heap.size + 1, 0, none⟩ = some (.slice (some ⟨b5, o5, none⟩) 2 d15) ∧ W.cell? ⟨w6.heap.size + 1, 1, none⟩ = some (.slice (some ⟨b6, o6, none⟩) 1 d16) ∧ W.cell? ⟨b5, o5, none⟩ = some (.slice B1 R1.length e1) ∧ W.cell? ⟨b5, o5 + 1, none⟩ = some (.slice B2 R2.length e2) ∧ W.cell? ⟨b6, o6, none⟩ = some (.slice B3 R3.length e3)) := Lib.hid (fun W hb => ⟨((bcell hb).1 _ _ y1).trans hS7.1, ((bcell hb).1 _ _ y1).trans hS7.2.1, ((bcell hb).1 _ _ y5).trans hS7.2.2.1, ((bcell hb).1 _ _ y5).trans hS7.2.2.2.1, ((bcell hb).1 _ _ y6).trans hS7.2.2.2.2⟩)
          have hsub : ∀ {wa wb : World}, Below wa.heap.size wa wb → Below W7.heap.size W7 wa → Below W7.heap.size W7 wb := fun h k => k.trans (h.mono k.size)
          have H1 := Lib.hid hof1
          have H2 := Lib.hid hun
          have H3 := Lib.hid hof3
          have hl1 := r1.1
          have hl2 := r2.1
          have hl3 := r3.1
          have RR1 := Lib.hid r1
          have RR2 := Lib.hid r2
          have RR3 := Lib.hid r3
          have RX := Lib.hid hrx7
          have RY := Lib.hid hry7
          have tk1 : True := trivial
          have tk2 : True := trivial
          have tk3 : True := trivial
          have tk4 : True := trivial
          have tk5 : True := trivial
          have tk6 : True := trivial
          clear hof1 hun hof3 r1 r2 r3 hrx7 hry7 u1 u2 u3 hk7 hb7 hT7 hW7 HT6 HV1 HV2 HV3 q2 p0 p1 p2 p3 p4 p5 hS7 hYv hl1 hl2 hl3
          go_region_held3 (fun w' => w'.cell? ⟨w6.heap.size + 1, 0, none⟩ = some (.slice (some ⟨b5, o5, none⟩) 2 d15) ∧ w'.cell? ⟨w6.heap.size + 1, 1, none⟩ = some (.slice (some ⟨b6, o6, none⟩) 1 d16) ∧ w'.cell? ⟨b5, o5, none⟩ = some (.slice B1 R1.length e1) ∧ w'.cell? ⟨b5, o5 + 1, none⟩ = some (.slice B2 R2.length e2) ∧ w'.cell? ⟨b6, o6, none⟩ = some (.slice B3 R3.length e3))
            (first | with_reducible exact hS7d | with_reducible exact hS8 | with_reducible exact hS9 | with_reducible exact hS10 | with_reducible exact hS11 | with_reducible exact hS12 | with_reducible exact hS13)
            (first
              | (go_at_call 31; have _t := tk1; refine (H1.out _ (HK RY.out hd7)).mono ?_; rintro e w8 ⟨⟨A8, c8, rfl, hr8⟩, hb8'⟩; have hb8 := hsub hb8' hd7; have hS8 := HS.out _ hb8; clear _t tk1)
              | (go_at_call 32; have _t := tk2; refine (same06_self _ B1 A8 R1.length R1.length e1 c8 R1 (HK RR1.out hb8) hr8 hlr1).mono ?_; rintro e w9 ⟨rfl, hb9'⟩; have hb9 := hsub hb9' hb8; have hS9 := HS.out _ hb9; clear _t tk2)
              | (go_at_call 33; have _t := tk3; refine (H2.out _ (HK RX.out hb9) (HK RY.out hb9)).mono ?_; rintro e w10 ⟨⟨A10, c10, rfl, hr10⟩, hb10'⟩; have hb10 := hsub hb10' hb9; have hS10 := HS.out _ hb10; clear _t tk3)
              | (go_at_call 32; have _t := tk4; refine (same06_self _ B2 A10 R2.length R2.length e2 c10 R2 (HK RR2.out hb10) hr10 hlr2).mono ?_; rintro e w11 ⟨rfl, hb11'⟩; have hb11 := hsub hb11' hb10; have hS11 := HS.out _ hb11; clear _t tk4)
              | (go_at_call 31; have _t := tk5; refine (H3.out _ (HK RX.out hb11)).mono ?_; rintro e w12 ⟨⟨A32, c12, rfl, hr12⟩, hb12'⟩; have hb12 := hsub hb12' hb11; have hS12 := HS.out _ hb12; clear _t tk5)
              | (go_at_call 32; have _t := tk6; refine (same06_self _ B3 A32 R3.length R3.length e3 c12 R3 (HK RR3.out hb12) hr12 hlr3).mono ?_; rintro e w13 ⟨rfl, hb13'⟩; have hb13 := hsub hb13' hb12; have hS13 := HS.out _ hb13; clear _t tk6))
          all_goals
            go_wp2_with fail
            go_ret
            exact ⟨rfl, HB7.out.trans (hb13.mono HB7.out.size)⟩
        · have hapP1 : (ByteArray.mk #[99, 108, 97, 115, 115, 32, 111, 110, 101, 32, 91]) ++ ⟨M1.toArray⟩ = ⟨(cA1 ++ M1).toArray⟩ := app_list cA1 M1
          have hlP1 : (cA1 ++ M1).length ≤ 110 := by rw [List.length_append]; unfold cA1; simp only [List.length_cons, List.length_nil]; omega
          generalize hP1 : cA1 ++ M1 = P1 at *
          have hapF1 : (ByteArray.mk P1.toArray) ++ ⟨#[32, 93, 10]⟩ = ⟨(P1 ++ cZ).toArray⟩ := app_list P1 cZ
          have hlF1 : (P1 ++ cZ).length ≤ 120 := by rw [List.length_append]; unfold cZ; simp only [List.length_cons, List.length_nil]; omega
          generalize hF1 : P1 ++ cZ = F1 at *
          have hapP2 : (ByteArray.mk #[99, 108, 97, 115, 115, 32, 116, 119, 111, 32, 91]) ++ ⟨M2.toArray⟩ = ⟨(cA2 ++ M2).toArray⟩ := app_list cA2 M2
          have hlP2 : (cA2 ++ M2).length ≤ 130 := by rw [List.length_append]; unfold cA2; simp only [List.length_cons, List.length_nil]; omega
          generalize hP2 : cA2 ++ M2 = P2 at *
          have hapF2 : (ByteArray.mk P2.toArray) ++ ⟨#[32, 93, 10]⟩ = ⟨(P2 ++ cZ).toArray⟩ := app_list P2 cZ
          have hlF2 : (P2 ++ cZ).length ≤ 140 := by rw [List.length_append]; unfold cZ; simp only [List.length_cons, List.length_nil]; omega
          generalize hF2 : P2 ++ cZ = F2 at *
          have hapFF : (ByteArray.mk F1.toArray) ++ ⟨F1.toArray⟩ = ⟨(F1 ++ F1).toArray⟩ := app_list F1 F1
          have hlFF : (F1 ++ F1).length ≤ 240 := by rw [List.length_append]; omega
          generalize hFF : F1 ++ F1 = FF at *
          have hapQ1 : (ByteArray.mk S0.toArray) ++ ⟨FF.toArray⟩ = ⟨(S0 ++ FF).toArray⟩ := app_list S0 FF
          have hlQ1 : (S0 ++ FF).length ≤ 420 := by rw [List.length_append]; omega
          generalize hQ1 : S0 ++ FF = Q1 at *
          have hapQ2 : (ByteArray.mk Q1.toArray) ++ ⟨F2.toArray⟩ = ⟨(Q1 ++ F2).toArray⟩ := app_list Q1 F2
          have hlQ2 : (Q1 ++ F2).length ≤ 580 := by rw [List.length_append]; omega
          generalize hQ2 : Q1 ++ F2 = Q2 at *
          have hapQ3 : (ByteArray.mk Q2.toArray) ++ ⟨#[108, 111, 111, 107, 117, 112, 32, 99, 104, 97, 105, 110, 10, 114, 117, 108, 101, 32, 64, 116, 119, 111, 32, 91, 32, 64, 111, 110, 101, 32, 64, 116, 119, 111, 32, 93, 32, 47, 32, 64, 111, 110, 101, 32, 47, 32, 62, 10]⟩ = ⟨(Q2 ++ cR1).toArray⟩ := app_list Q2 cR1
          have hlQ3 : (Q2 ++ cR1).length ≤ 700 := by rw [List.length_append]; unfold cR1; simp only [List.length_cons, List.length_nil]; omega
          generalize hQ3 : Q2 ++ cR1 = Q3 at *
          have hp : parseL Q3 = .error (10, 24) := by
            have h := cls1 xs ys false hx2.out hy2.out hx1
            rw [HM1.out, HS0.out] at h
            rw [HM2.out] at h
            rw [show cAt false = [] from rfl, List.append_nil] at h
            rw [hP1, hF1, hP2, hF2, hFF, hQ1, hQ2, hQ3] at h
            exact h
          have HP := Lib.hid hp
          clear hp hP1 hF1 hP2 hF2 hFF hQ1 hQ2 hQ3
          have hzr := hbr.size
          go_upto_region 39 with fail
          have HBX : Hid (Below w.heap.size w wr) := Lib.hid (HB1.out.trans (hbr.mono hz1))
          have hf := parseFont_ok wr Q3 (by omega) (HTB.out.below hbr) (Nat.le_trans hnT HBX.out.size)
          rw [HP.out] at hf
          have HF := Lib.hid hf
          clear hf HP
          go_wp2_with fail
          refine HF.out.mono ?_
          rintro e w6 ⟨hb6, rfl⟩
          have HB6 : Hid (Below w.heap.size w w6) := Lib.hid (HBX.out.trans (hb6.mono HBX.out.size))
          have hz6 := HB6.out.size
          clear hb6 HF
          go_wp2_with fail
          go_ret
          exact ⟨rfl, HB6.out.alloc hz6 _⟩
        · have hapP1 : (ByteArray.mk #[99, 108, 97, 115, 115, 32, 111, 110, 101, 32, 91]) ++ ⟨M1.toArray⟩ = ⟨(cA1 ++ M1).toArray⟩ := app_list cA1 M1
          have hlP1 : (cA1 ++ M1).length ≤ 110 := by rw [List.length_append]; unfold cA1; simp only [List.length_cons, List.length_nil]; omega
          generalize hP1 : cA1 ++ M1 = P1 at *
          have hapF1 : (ByteArray.mk P1.toArray) ++ ⟨#[32, 93, 10]⟩ = ⟨(P1 ++ cZ).toArray⟩ := app_list P1 cZ
          have hlF1 : (P1 ++ cZ).length ≤ 120 := by rw [List.length_append]; unfold cZ; simp only [List.length_cons, List.length_nil]; omega
          generalize hF1 : P1 ++ cZ = F1 at *
          have hapP2 : (ByteArray.mk #[99, 108, 97, 115, 115, 32, 116, 119, 111, 32, 91]) ++ ⟨M2.toArray⟩ = ⟨(cA2 ++ M2).toArray⟩ := app_list cA2 M2
          have hlP2 : (cA2 ++ M2).length ≤ 130 := by rw [List.length_append]; unfold cA2; simp only [List.length_cons, List.length_nil]; omega
          generalize hP2 : cA2 ++ M2 = P2 at *
          have hapF2 : (ByteArray.mk P2.toArray) ++ ⟨#[32, 93, 10]⟩ = ⟨(P2 ++ cZ).toArray⟩ := app_list P2 cZ
          have hlF2 : (P2 ++ cZ).length ≤ 140 := by rw [List.length_append]; unfold cZ; simp only [List.length_cons, List.length_nil]; omega
          generalize hF2 : P2 ++ cZ = F2 at *
          have hapQ1 : (ByteArray.mk S0.toArray) ++ ⟨F1.toArray⟩ = ⟨(S0 ++ F1).toArray⟩ := app_list S0 F1
          have hlQ1 : (S0 ++ F1).length ≤ 420 := by rw [List.length_append]; omega
          generalize hQ1 : S0 ++ F1 = Q1 at *
          have hapQ2 : (ByteArray.mk Q1.toArray) ++ ⟨F2.toArray⟩ = ⟨(Q1 ++ F2).toArray⟩ := app_list Q1 F2
          have hlQ2 : (Q1 ++ F2).length ≤ 580 := by rw [List.length_append]; omega
          generalize hQ2 : Q1 ++ F2 = Q2 at *
          have hapQ3 : (ByteArray.mk Q2.toArray) ++ ⟨#[108, 111, 111, 107, 117, 112, 32, 99, 104, 97, 105, 110, 10, 114, 117, 108, 101, 32, 64, 116, 104, 114, 101, 101, 32, 47, 32, 64, 111, 110, 101, 32, 47, 32, 62, 10]⟩ = ⟨(Q2 ++ cR2).toArray⟩ := app_list Q2 cR2
          have hlQ3 : (Q2 ++ cR2).length ≤ 700 := by rw [List.length_append]; unfold cR2; simp only [List.length_cons, List.length_nil]; omega
          generalize hQ3 : Q2 ++ cR2 = Q3 at *
          have hp : parseL Q3 = .error (12, 23) := by
            have h := cls2 xs ys false hx2.out hy2.out hx1 hy1
            rw [HM1.out, HS0.out] at h
            rw [HM2.out] at h
            rw [show cAt false = [] from rfl, List.append_nil] at h
            rw [hP1, hF1, hP2, hF2, hQ1, hQ2, hQ3] at h
            exact h
          have HP := Lib.hid hp
          clear hp hP1 hF1 hP2 hF2 hQ1 hQ2 hQ3
          have hzr := hbr.size
          go_upto_region 39 with fail
          have HBX : Hid (Below w.heap.size w wr) := Lib.hid (HB1.out.trans (hbr.mono hz1))
          have hf := parseFont_ok wr Q3 (by omega) (HTB.out.below hbr) (Nat.le_trans hnT HBX.out.size)
          rw [HP.out] at hf
          have HF := Lib.hid hf
          clear hf HP
          go_wp2_with fail
          refine HF.out.mono ?_
          rintro e w6 ⟨hb6, rfl⟩
          have HB6 : Hid (Below w.heap.size w w6) := Lib.hid (HBX.out.trans (hb6.mono HBX.out.size))
          have hz6 := HB6.out.size
          clear hb6 HF
          go_wp2_with fail
          go_ret
          exact ⟨rfl, HB6.out.alloc hz6 _⟩
        · have hapP1 : (ByteArray.mk #[99, 108, 97, 115, 115, 32, 111, 110, 101, 32, 91]) ++ ⟨M1.toArray⟩ = ⟨(cA1 ++ M1).toArray⟩ := app_list cA1 M1
          have hlP1 : (cA1 ++ M1).length ≤ 110 := by rw [List.length_append]; unfold cA1; simp only [List.length_cons, List.length_nil]; omega
          generalize hP1 : cA1 ++ M1 = P1 at *
          have hapF1 : (ByteArray.mk P1.toArray) ++ ⟨#[32, 93, 10]⟩ = ⟨(P1 ++ cZ).toArray⟩ := app_list P1 cZ
          have hlF1 : (P1 ++ cZ).length ≤ 120 := by rw [List.length_append]; unfold cZ; simp only [List.length_cons, List.length_nil]; omega
          generalize hF1 : P1 ++ cZ = F1 at *
          have hapP2 : (ByteArray.mk #[99, 108, 97, 115, 115, 32, 116, 119, 111, 32, 91]) ++ ⟨M2.toArray⟩ = ⟨(cA2 ++ M2).toArray⟩ := app_list cA2 M2
          have hlP2 : (cA2 ++ M2).length ≤ 130 := by rw [List.length_append]; unfold cA2; simp only [List.length_cons, List.length_nil]; omega
          generalize hP2 : cA2 ++ M2 = P2 at *
          have hapF2 : (ByteArray.mk P2.toArray) ++ ⟨#[32, 93, 10]⟩ = ⟨(P2 ++ cZ).toArray⟩ := app_list P2 cZ
          have hlF2 : (P2 ++ cZ).length ≤ 140 := by rw [List.length_append]; unfold cZ; simp only [List.length_cons, List.length_nil]; omega
          generalize hF2 : P2 ++ cZ = F2 at *
          have hapQ1 : (ByteArray.mk S0.toArray) ++ ⟨F1.toArray⟩ = ⟨(S0 ++ F1).toArray⟩ := app_list S0 F1
          have hlQ1 : (S0 ++ F1).length ≤ 420 := by rw [List.length_append]; omega
          generalize hQ1 : S0 ++ F1 = Q1 at *
          have hapQ2 : (ByteArray.mk Q1.toArray) ++ ⟨#[99, 108, 97, 115, 115, 32, 116, 119, 111, 32, 64, 116, 119, 111, 10]⟩ = ⟨(Q1 ++ cSB).toArray⟩ := app_list Q1 cSB
          have hlQ2 : (Q1 ++ cSB).length ≤ 580 := by rw [List.length_append]; unfold cSB; simp only [List.length_cons, List.length_nil]; omega
          generalize hQ2 : Q1 ++ cSB = Q2 at *
          have hapQ3 : (ByteArray.mk Q2.toArray) ++ ⟨#[108, 111, 111, 107, 117, 112, 32, 99, 104, 97, 105, 110, 10, 114, 117, 108, 101, 32, 64, 116, 119, 111, 32, 91, 32, 64, 111, 110, 101, 32, 64, 116, 119, 111, 32, 93, 32, 47, 32, 64, 111, 110, 101, 32, 47, 32, 62, 10]⟩ = ⟨(Q2 ++ cR1).toArray⟩ := app_list Q2 cR1
          have hlQ3 : (Q2 ++ cR1).length ≤ 700 := by rw [List.length_append]; unfold cR1; simp only [List.length_cons, List.length_nil]; omega
          generalize hQ3 : Q2 ++ cR1 = Q3 at *
          have hp : parseL Q3 = .error (10, 23) := by
            have h := cls3 xs hx2.out hx1
            rw [HM1.out, HS0.out] at h
            rw [hP1, hF1, hQ1, hQ2, hQ3] at h
            exact h
          have HP := Lib.hid hp
          clear hp hP1 hF1 hP2 hF2 hQ1 hQ2 hQ3
          have hzr := hbr.size
          go_upto_region 39 with fail
          have HBX : Hid (Below w.heap.size w wr) := Lib.hid (HB1.out.trans (hbr.mono hz1))
          have hf := parseFont_ok wr Q3 (by omega) (HTB.out.below hbr) (Nat.le_trans hnT HBX.out.size)
          rw [HP.out] at hf
          have HF := Lib.hid hf
          clear hf HP
          go_wp2_with fail
          refine HF.out.mono ?_
          rintro e w6 ⟨hb6, rfl⟩
          have HB6 : Hid (Below w.heap.size w w6) := Lib.hid (HBX.out.trans (hb6.mono HBX.out.size))
          have hz6 := HB6.out.size
          clear hb6 HF
          go_wp2_with fail
          go_ret
          exact ⟨rfl, HB6.out.alloc hz6 _⟩
end Go.Proofs.YtkijckccfookeaaGreatDoor
