/- fleuronlaw08.ParsePairs returns true. Printed by gen_pair.py. -/
import Derived.Test.YtkijckccfookeaaGreatDoorM38
import Derived.Test.YtkijckccfookeaaGreatDoorM42
import Derived.Test.YtkijckccfookeaaGreatDoorM43
import Derived.Test.YtkijckccfookeaaGreatDoorM44
import Derived.Test.YtkijckccfookeaaGreatDoorM41
import Derived.Deep.Cut
namespace Go.Proofs.YtkijckccfookeaaGreatDoor
open Go.RowKit
attribute [-go_sem] Builtin.append_

theorem u7a : ∀ c : Fin 256, bits .and .u8 (c.val : Int) 7 = ((c.val % 8 : Nat) : Int) := by decide +kernel
theorem u7 (c : UInt8) : ∃ n : Nat, bits .and .u8 (c.toNat : Int) 7 = n ∧ n < 8 := ⟨c.toNat % 8, u7a ⟨c.toNat, c.toNat_lt⟩, Nat.mod_lt _ (by omega)⟩
theorem more_sn (l : List Int) (n : Int) : moreB ((l ++ [n]).map gN) = moreB (l.map gN) ++ 32 :: gN n := by simp [moreB]
theorem more_len3 (l : List Int) (h : ∀ n ∈ l, In 16 n) (k : Nat) (hl : l.length ≤ k) : (moreB (l.map gN)).length ≤ 12 * k := by
  have : (moreB (l.map gN)).length ≤ k * 12 := flat_le (l.map gN) _ 12 k (fun w hw => by
    rw [List.mem_map] at hw
    obtain ⟨n, hn, rfl⟩ := hw
    obtain ⟨a, b⟩ := h n hn
    have := it_len n ⟨by omega, by omega⟩
    rw [List.length_cons, gN, List.length_cons]
    omega) (by rw [List.length_map]; exact hl)
  omega
theorem take_sn {l : List Int} {k : Nat} {x : Int} (h : l[k]? = some x) : l.take (k + 1) = l.take k ++ [x] := by rw [List.take_add_one, h]; rfl
theorem own_rdI {w : World} {Bd n c : Nat} {A : Option Addr} {l : List Int} (h : w.ownsRow Bd tInt 1 (.slice A n c) n (cIs l)) : Rd w w.heap.size A n 1 (cIs l) := by
  obtain ⟨A', c', e1, h1⟩ := Rd.of_own h
  simp only [Value.slice.injEq, true_and] at e1
  obtain ⟨rfl, rfl⟩ := e1
  exact h1
set_option maxRecDepth 100000 in
set_option maxHeartbeats 8000000 in
theorem parsePairs_ok (w : World) (A0 : Option Addr) (n0 c0 : Nat) (zs : List UInt8) (rev : Bool) (c : Nat) (hr0 : Rd w w.heap.size A0 n0 1 (cYs zs)) (hc : c < 256) (hTb : PTabs w) (hnT : nT ≤ w.heap.size) : Calls Tryz.prog 9 #[.slice A0 n0 c0, .bool rev, .int .u8 c] w fun e w' => e = .returned (.bool true) ∧ Below w.heap.size w w' := by
  have HR0 := Lib.hid hr0
  clear hr0
  go_enter Tryz.func9, Tryz.ntmps9
  go_wp2_with fail
  refine (shown_ok w hTb hnT).mono ?_
  rintro e w1 ⟨rfl, hb1⟩
  have HB1 := Lib.hid hb1
  have HTB := Lib.hid (hTb.below hb1)
  have hz1 := hb1.size
  clear hb1 hTb
  go_wp2_with fail
  go_loopw [8, 9] (fun s i wr => ∃ k : Nat, k ≤ 16 ∧ i = .int .i64 k ∧ s = .string ⟨(cS k).toArray⟩ ∧ Below w1.heap.size w1 wr) (fun _ i _ => 16 - (intOf i).toNat)
  case atStart => exact ⟨0, by omega, rfl, rfl, Below.refl _ _⟩
  case round =>
    obtain ⟨k, hk, rfl, rfl, hbr⟩ := hrel
    by_cases hlt : k < 16
    · have HDEC := Lib.hid (fun w' => decimal_ok w' (k : Int) ⟨by omega, by omega⟩)
      have hil := it_len (k : Int) ⟨by omega, by omega⟩
      have hsl := cS_len k (by omega)
      have hsn : Hid (cS (k + 1) = cS k ++ [103, 108, 121, 112, 104, 32, 103] ++ itB (k : Int) ++ [32, 48, 10]) := by
        show _ = _
        rw [cS_snoc]
        simp [cPart, cGly, cEnd, gN]
      generalize cS k = S at *
      generalize itB (k : Int) = D at *
      have hapS1 : (ByteArray.mk S.toArray) ++ ⟨#[103, 108, 121, 112, 104, 32, 103]⟩ = ⟨(S ++ [103, 108, 121, 112, 104, 32, 103]).toArray⟩ := app_list S [103, 108, 121, 112, 104, 32, 103]
      have hlS1 : (S ++ [103, 108, 121, 112, 104, 32, 103]).length ≤ 400 := by rw [List.length_append]; simp only [List.length_cons, List.length_nil]; omega
      generalize hS1 : S ++ [103, 108, 121, 112, 104, 32, 103] = S1 at *
      have hapS2 : (ByteArray.mk S1.toArray) ++ ⟨D.toArray⟩ = ⟨(S1 ++ D).toArray⟩ := app_list S1 D
      have hlS2 : (S1 ++ D).length ≤ 420 := by rw [List.length_append]; omega
      generalize hS2 : S1 ++ D = S2 at *
      have hapS3 : (ByteArray.mk S2.toArray) ++ ⟨#[32, 48, 10]⟩ = ⟨(S2 ++ [32, 48, 10]).toArray⟩ := app_list S2 [32, 48, 10]
      have hlS3 : (S2 ++ [32, 48, 10]).length ≤ 440 := by rw [List.length_append]; simp only [List.length_cons, List.length_nil]; omega
      generalize hS3 : S2 ++ [32, 48, 10] = S3 at *
      clear hS1 hS2 hS3
      go_wp2_with fail
      refine (HDEC.out _).mono ?_
      rintro e w3 ⟨rfl, hb3⟩
      have HB3 : Hid (Below w1.heap.size w1 w3) := Lib.hid (hbr.trans (hb3.mono hbr.size))
      clear hbr hb3 HDEC
      go_wp2_with fail
      go_roundw
      case rel => exact ⟨k + 1, by omega, by simp, by rw [hsn.out], HB3.out⟩
      case measure => simp [intOf]; omega
    · obtain rfl : k = 16 := by omega
      have e16 : ((16 : Nat) : Int) = 16 := rfl
      rw [e16]
      clear e16
      obtain ⟨wa, rfl⟩ : ∃ x, x = wr := ⟨_, rfl⟩
      have HBr := Lib.hid hbr
      have hz2 := hbr.size
      clear hbr
      go_wp2_with fail
      go_loopw [10, 11] (fun s i w2 => ∃ (k : Nat) (ns : List Int) (A : Option Addr) (ca : Nat), k ≤ 20 ∧ i = .int .i64 k ∧ s = .slice A ns.length ca ∧ w2.ownsRow w1.heap.size tInt 1 (.slice A ns.length ca) ns.length (cIs ns) ∧ Hid (ns.Nodup ∧ ∀ n ∈ ns, In 8 n) ∧ Below w1.heap.size w1 w2) (fun _ i _ => 20 - (intOf i).toNat)
      case atStart => exact ⟨0, [], some ⟨wa.heap.size, 0, none⟩, 0, by omega, rfl, rfl, own_new wa w1.heap.size tInt 1 0 #[] hz2 rfl (by omega), Lib.hid (by simp), HBr.out.alloc hz2 _⟩
      case round =>
        obtain ⟨w2, rfl⟩ : ∃ x, x = wr := ⟨_, rfl⟩
        obtain ⟨k, ns, A, ca, hk, rfl, rfl, ho, hns, hb2⟩ := hrel
        have hnl := in8_len hns.out.1 hns.out.2
        have hz3 := hb2.size
        by_cases hgo : k < n0 ∧ k < 20
        · obtain ⟨hk1, hk2⟩ := hgo
          obtain ⟨b0, o0, cc, rfl, hb0, hcc, q0⟩ := HR0.out.atY hk1
          have HB2 : Hid (Below w.heap.size w w2) := Lib.hid (HB1.out.trans (hb2.mono hz1))
          have q0' := ((bcell HB2.out).1 _ _ hb0).trans q0
          obtain ⟨n, hn7, hn8⟩ := u7 cc
          have HAS := Lib.hid (fun W h => has_ok W A ns.length ca ns (n : Int) h (by omega))
          have hin : In 8 (n : Int) := ⟨by omega, by omega⟩
          have HO := Lib.hid ho
          have HB2b := Lib.hid hb2
          have zb : b0 < w2.heap.size := Nat.lt_of_lt_of_le hb0 HB2.out.size
          clear q0 ho hb2
          by_cases hm : (n : Int) ∈ ns
          · have hdm : decide ((n : Int) ∈ ns) = true := decide_eq_true hm
            rw [hdm] at HAS
            clear hm hdm
            go_wp2_with fail
            refine (HAS.out w2 (own_rdI HO.out)).mono ?_
            rintro e w4 ⟨rfl, hb4⟩
            have HB4 : Hid (Below w1.heap.size w1 w4) := Lib.hid (HB2b.out.trans (hb4.mono hz3))
            have HO4 := Lib.hid (own_below HO.out hb4)
            clear hb4 HAS
            go_wp2_with fail
            go_roundw
            case rel => exact ⟨k + 1, ns, A, ca, by omega, by simp, rfl, HO4.out, hns, HB4.out⟩
            case measure => simp [intOf]; omega
          · have hdm : decide ((n : Int) ∈ ns) = false := decide_eq_false hm
            rw [hdm] at HAS
            have hns2 : Hid ((ns ++ [(n : Int)]).Nodup ∧ ∀ x ∈ ns ++ [(n : Int)], In 8 x) := Lib.hid ⟨by
                rw [List.nodup_append]
                exact ⟨hns.out.1, by simp, fun a ha x hx e => by simp only [List.mem_singleton] at hx; subst hx; subst e; exact hm ha⟩, fun x hx => by
                rw [List.mem_append, List.mem_singleton] at hx
                rcases hx with hx | rfl
                · exact hns.out.2 x hx
                · exact hin⟩
            clear hm hdm
            go_wp2_with fail
            refine (HAS.out w2 (own_rdI HO.out)).mono ?_
            rintro e w4 ⟨rfl, hb4⟩
            have HB4 : Hid (Below w1.heap.size w1 w4) := Lib.hid (HB2b.out.trans (hb4.mono hz3))
            have hO4 := own_below HO.out hb4
            have hz4 := HB4.out.size
            clear hb4 HAS
            go_wp2_with (at_builtin; refine push_l elInt rfl (.tmp 56) (.tmp 58) rfl w4 w4.heap.size rfl w1.heap.size ns.length ca A (cIs ns) #[.int .i64 n] rfl rfl rfl hO4 (by simp [Value.oneCell']) (by omega) hz4 ?_; intro A5 c5 w5 h5 g5 l5; have HB5 : Hid (Below w1.heap.size w1 w5) := Lib.hid (HB4.out.grown g5 hz4 (fun g e => (hO4.lt g e).1)); clear g5 l5)
            go_roundw
            case rel => exact ⟨k + 1, ns ++ [(n : Int)], A5, c5, by omega, by simp, by simp, by simpa [cIs, cI] using h5, hns2, HB5.out⟩
            case measure => simp [intOf]; omega
        · have HO := Lib.hid ho
          have HB2 : Hid (Below w.heap.size w w2) := Lib.hid (HB1.out.trans (hb2.mono hz1))
          have HB2b := Lib.hid hb2
          have H16 := Lib.hid (fun n h => in16 (hns.out.2 n h))
          clear ho hb2
          by_cases hk1 : k < n0
          · have hk2 : ¬ k < 20 := fun h => hgo ⟨hk1, h⟩
            clear hgo
            go_wp2_with fail
            go_loopw [13, 14, 15] (fun s t i w3 => ∃ k : Nat, k ≤ ns.length ∧ i = .int .i64 k ∧ s = .string ⟨(moreB ((ns.take k).map gN)).toArray⟩ ∧ t = .string ⟨(moreB (((ns.take k).map (15 - ·)).map gN)).toArray⟩ ∧ Below w2.heap.size w2 w3) (fun _ _ i _ => ns.length - (intOf i).toNat)
            case atStart => exact ⟨0, Nat.zero_le _, rfl, rfl, rfl, Below.refl _ _⟩
            case round =>
              obtain ⟨w3, rfl⟩ : ∃ x, x = wr := ⟨_, rfl⟩
              obtain ⟨k3, hk3, rfl, rfl, rfl, hb3⟩ := hrel
              have h16' : ∀ n ∈ (ns.take k3).map (15 - ·), In 16 n := fun n hn => by
                rw [List.mem_map] at hn
                obtain ⟨m, hm, rfl⟩ := hn
                exact in16' (hns.out.2 m (List.mem_of_mem_take hm))
              have hml := more_len3 (ns.take k3) (fun n hn => in16 (hns.out.2 n (List.mem_of_mem_take hn))) 8 (by rw [List.length_take]; omega)
              have hml2 := more_len3 ((ns.take k3).map (15 - ·)) h16' 8 (by rw [List.length_map, List.length_take]; omega)
              by_cases hlt3 : k3 < ns.length
              · obtain ⟨b6, o6, x, rfl, hx, q6⟩ := ints_at (own_rdI HO.out) hb3 hlt3
                have hx8 := hns.out.2 x (List.mem_of_getElem? hx.out)
                obtain ⟨hx1, hx2⟩ := hx8
                have e1 : Hid (moreB ((ns.take (k3 + 1)).map gN) = moreB ((ns.take k3).map gN) ++ [32, 103] ++ itB x) := by
                  show _ = _
                  rw [take_sn hx.out, more_sn]
                  simp [gN]
                have e2 : Hid (moreB (((ns.take (k3 + 1)).map (15 - ·)).map gN) = moreB (((ns.take k3).map (15 - ·)).map gN) ++ [32, 103] ++ itB (15 - x)) := by
                  show _ = _
                  rw [take_sn hx.out, List.map_append, List.map_cons, List.map_nil, more_sn]
                  simp [gN]
                have HD1 := Lib.hid (fun w' => decimal_ok w' x ⟨by omega, by omega⟩)
                have HD2 := Lib.hid (fun w' => decimal_ok w' (15 - x) ⟨by omega, by omega⟩)
                have hi1 := it_len x ⟨by omega, by omega⟩
                have hi2 := it_len (15 - x) ⟨by omega, by omega⟩
                have HB3 := Lib.hid hb3
                have z6 : b6 < w3.heap.size := World.block_lt_of_cell? w3 _ q6
                generalize moreB ((ns.take k3).map gN) = M1 at *
                generalize moreB (((ns.take k3).map (15 - ·)).map gN) = M2 at *
                generalize itB x = D1 at *
                generalize itB (15 - x) = D2 at *
                clear hb3 hx h16'
                have hapP1 : (ByteArray.mk M1.toArray) ++ ⟨#[32, 103]⟩ = ⟨(M1 ++ [32, 103]).toArray⟩ := app_list M1 [32, 103]
                have hlP1 : (M1 ++ [32, 103]).length ≤ 100 := by rw [List.length_append]; simp only [List.length_cons, List.length_nil]; omega
                generalize hP1 : M1 ++ [32, 103] = P1 at *
                have hapP2 : (ByteArray.mk P1.toArray) ++ ⟨D1.toArray⟩ = ⟨(P1 ++ D1).toArray⟩ := app_list P1 D1
                have hlP2 : (P1 ++ D1).length ≤ 120 := by rw [List.length_append]; omega
                generalize hP2 : P1 ++ D1 = P2 at *
                have hapP3 : (ByteArray.mk M2.toArray) ++ ⟨#[32, 103]⟩ = ⟨(M2 ++ [32, 103]).toArray⟩ := app_list M2 [32, 103]
                have hlP3 : (M2 ++ [32, 103]).length ≤ 100 := by rw [List.length_append]; simp only [List.length_cons, List.length_nil]; omega
                generalize hP3 : M2 ++ [32, 103] = P3 at *
                have hapP4 : (ByteArray.mk P3.toArray) ++ ⟨D2.toArray⟩ = ⟨(P3 ++ D2).toArray⟩ := app_list P3 D2
                have hlP4 : (P3 ++ D2).length ≤ 120 := by rw [List.length_append]; omega
                generalize hP4 : P3 ++ D2 = P4 at *
                clear hP1 hP2 hP3 hP4
                have tk1 : True := trivial
                go_upto_region 20 with (go_at_call 28; have _t := tk1; refine (HD1.out _).mono ?_; rintro e w4 ⟨rfl, hb4⟩; have q7 := ((bcell hb4).1 _ _ z6).trans q6; have hb4w := HB3.out.trans (hb4.mono HB3.out.size); have z7 : b6 < w4.heap.size := Nat.lt_of_lt_of_le z6 hb4.size; clear _t tk1 hb4 HD1)
                have HB4 := Lib.hid hb4w
                clear hb4w q6
                go_wp2_with fail
                refine (HD2.out _).mono ?_
                rintro e w5 ⟨rfl, hb5⟩
                have HB5 : Hid (Below w2.heap.size w2 w5) := Lib.hid (HB4.out.trans (hb5.mono HB4.out.size))
                clear hb5 HD2
                go_wp2_with fail
                go_roundw
                case rel => exact ⟨k3 + 1, by omega, by simp, by rw [e1.out], by rw [e2.out], HB5.out⟩
                case measure => simp [intOf]; omega
              · obtain rfl : k3 = ns.length := by omega
                rw [List.take_length] at *
                clear h16' hlt3
                have HB3 := Lib.hid hb3
                have hsl := cS_len 16 (by omega)
                have hc4 : ∃ q : Nat, (c : Int).tmod 4 = q ∧ q < 4 := ⟨c % 4, by rw [Int.tmod_eq_emod_of_nonneg (by omega)]; omega, Nat.mod_lt _ (by omega)⟩
                obtain ⟨q, hq, hq4⟩ := hc4
                have hqq : q = 0 ∨ q = 1 ∨ q = 2 ∨ q = 3 := by omega
                have HBw : Hid (Below w1.heap.size w1 w3) := Lib.hid (HB2b.out.trans (hb3.mono HB2b.out.size))
                have HBx : Hid (Below w.heap.size w w3) := Lib.hid (HB1.out.trans (HBw.out.mono hz1))
                have HO3 := Lib.hid (own_below HO.out hb3)
                clear hb3
                cases rev with
                | true =>
                  rcases hqq with rfl | rfl | rfl | rfl
                  · have hp : parseL (cS 16 ++ pLook ++ [114, 101, 118, 101, 114, 115, 101] ++ pRule ++ moreB (ns.map gN) ++ pMid ++ moreB ((ns.map (15 - ·)).map gN)) = .ok (pairF true ns) := by
                      have h := pair_right true ns hns.out.2 hns.out.1 hnl
                      rw [psrc_eq, show moreB ([] : List B) = [] from rfl, List.append_nil] at h
                      exact h
                    generalize cS 16 = S0 at *
                    generalize moreB (ns.map gN) = M1 at *
                    generalize moreB ((ns.map (15 - ·)).map gN) = M2 at *
                    unfold pLook pRule pMid at hp
                    have hapQ1 : (ByteArray.mk S0.toArray) ++ ⟨#[108, 111, 111, 107, 117, 112, 32]⟩ = ⟨(S0 ++ [108, 111, 111, 107, 117, 112, 32]).toArray⟩ := app_list S0 [108, 111, 111, 107, 117, 112, 32]
                    have hlQ1 : (S0 ++ [108, 111, 111, 107, 117, 112, 32]).length ≤ 400 := by rw [List.length_append]; simp only [List.length_cons, List.length_nil]; omega
                    generalize hQ1 : S0 ++ [108, 111, 111, 107, 117, 112, 32] = Q1 at *
                    have hapQ2 : (ByteArray.mk Q1.toArray) ++ ⟨#[114, 101, 118, 101, 114, 115, 101]⟩ = ⟨(Q1 ++ [114, 101, 118, 101, 114, 115, 101]).toArray⟩ := app_list Q1 [114, 101, 118, 101, 114, 115, 101]
                    have hlQ2 : (Q1 ++ [114, 101, 118, 101, 114, 115, 101]).length ≤ 420 := by rw [List.length_append]; simp only [List.length_cons, List.length_nil]; omega
                    generalize hQ2 : Q1 ++ [114, 101, 118, 101, 114, 115, 101] = Q2 at *
                    have hapQ3 : (ByteArray.mk Q2.toArray) ++ ⟨#[10, 114, 117, 108, 101, 32, 47, 32, 91]⟩ = ⟨(Q2 ++ [10, 114, 117, 108, 101, 32, 47, 32, 91]).toArray⟩ := app_list Q2 [10, 114, 117, 108, 101, 32, 47, 32, 91]
                    have hlQ3 : (Q2 ++ [10, 114, 117, 108, 101, 32, 47, 32, 91]).length ≤ 440 := by rw [List.length_append]; simp only [List.length_cons, List.length_nil]; omega
                    generalize hQ3 : Q2 ++ [10, 114, 117, 108, 101, 32, 47, 32, 91] = Q3 at *
                    have hapQ4 : (ByteArray.mk Q3.toArray) ++ ⟨M1.toArray⟩ = ⟨(Q3 ++ M1).toArray⟩ := app_list Q3 M1
                    have hlQ4 : (Q3 ++ M1).length ≤ 600 := by rw [List.length_append]; omega
                    generalize hQ4 : Q3 ++ M1 = Q4 at *
                    have hapQ5 : (ByteArray.mk Q4.toArray) ++ ⟨#[32, 93, 32, 47, 32, 62]⟩ = ⟨(Q4 ++ [32, 93, 32, 47, 32, 62]).toArray⟩ := app_list Q4 [32, 93, 32, 47, 32, 62]
                    have hlQ5 : (Q4 ++ [32, 93, 32, 47, 32, 62]).length ≤ 640 := by rw [List.length_append]; simp only [List.length_cons, List.length_nil]; omega
                    generalize hQ5 : Q4 ++ [32, 93, 32, 47, 32, 62] = Q5 at *
                    have hapQ6 : (ByteArray.mk Q5.toArray) ++ ⟨M2.toArray⟩ = ⟨(Q5 ++ M2).toArray⟩ := app_list Q5 M2
                    have hlQ6 : (Q5 ++ M2).length ≤ 800 := by rw [List.length_append]; omega
                    generalize hQ6 : Q5 ++ M2 = Q6 at *
                    have HP := Lib.hid hp
                    clear hp hQ1 hQ2 hQ3 hQ4 hQ5 hQ6
                    have hf := parseFont_ok w3 Q6 (by omega) (HTB.out.below HBw.out) (Nat.le_trans hnT HBx.out.size)
                    rw [HP.out] at hf
                    have HF := Lib.hid hf
                    clear hf HP
                    go_wp2_with fail
                    refine HF.out.mono ?_
                    rintro e w6 ⟨hb6, fc, rfl, hfn⟩
                    obtain ⟨A1, d1, A2, d2, b3, o3, d3, A4, d4, A5, d5, A6, d6, A7, d7, A8, d8, b4, o4, d14, A15, d15, b6, o6, d16, A17, d17, A18, d18, A19, d19, B1, e1, rfl, ⟨zb3, zb4, zb6⟩, g2, p0, p1, p2, p3, p4, p5, u3, v1, v2⟩ := pair_fnt hfn
                    have HB6 : Hid (Below w.heap.size w w6) := Lib.hid (HBx.out.trans (hb6.mono HBx.out.size))
                    have hz6 := HB6.out.size
                    have HO6 := Lib.hid (own_below HO3.out hb6)
                    have hsl1 := Nat.le_trans (setOf_len ns) hnl
                    have HOF := Lib.hid (fun W h => of_ok W A ns.length ca ns h (by omega))
                    have HRM : Hid (∀ x ∈ setOf ns, In 8 x) := Lib.hid (fun x hx => hns.out.2 x ((setOf_mem x _).1 hx))
                    clear hb6 hfn HF
                    generalize setOf ns = R1 at *
                    rw [List.length_map] at p3 v2
                    have HV1 := Lib.hid v1
                    have HV2 := Lib.hid v2
                    clear v1 v2
                    go_wp2_with fail
                    generalize hW7 : (World.alloc (World.alloc w6 _) _) = W7
                    have hk7 : Bk W7 (w6.heap.size + 1) 76 #[.slice A15 0 d15, .slice (some ⟨b6, o6, none⟩) 1 d16, .slice A17 0 d17, .slice A18 R1.length d18, .slice A19 0 d19, .int .i64 0] := by
                      rw [← hW7]
                      have h := Bk.new (w6.alloc (.cells #[.int .i64 0, .slice A1 (gGs 16).length d1, .slice A2 0 d2, .slice (some ⟨b3, o3, none⟩) 1 d3, .slice A4 0 d4, .slice A5 0 d5, .slice A6 0 d6, .slice A7 0 d7, .slice A8 0 d8] tFnt)) 76 #[.slice A15 0 d15, .slice (some ⟨b6, o6, none⟩) 1 d16, .slice A17 0 d17, .slice A18 R1.length d18, .slice A19 0 d19, .int .i64 0]
                      simpa using h
                    have hb7 : Below w6.heap.size w6 W7 := by rw [← hW7]; exact ((Below.refl _ _).alloc (Nat.le_refl _) _).alloc (by simp) _
                    have HK7 := Lib.hid hk7
                    have HB7 := Lib.hid hb7
                    have z7 : w6.heap.size + 1 < W7.heap.size := hk7.lt
                    clear hW7 hk7 hb7 g2 p0 p1 p2 p3 p4 p5
                    refine (HOF.out W7 (own_rdI (own_below HO6.out HB7.out))).mono ?_
                    rintro e w8 ⟨⟨A9, c9, rfl, hr8⟩, hb8⟩
                    have HB8 : Hid (Below w6.heap.size w6 w8) := Lib.hid (HB7.out.trans (hb8.mono HB7.out.size))
                    have k1 : w8.cell? ⟨w6.heap.size + 1, 1, none⟩ = some (.slice (some ⟨b6, o6, none⟩) 1 d16) := ((bcell hb8).1 _ _ z7).trans (HK7.out.cell 1)
                    have u8 : w8.cell? ⟨b6, o6, none⟩ = some (.slice B1 R1.length e1) := ((bcell HB8.out).1 _ _ zb6).trans u3
                    have HSM := Lib.hid (same06_self w8 B1 A9 R1.length R1.length e1 c9 R1 ((HV1.out.below HB8.out (Nat.le_refl _)).mono HB8.out.size) hr8 (by omega))
                    have HR8 := Lib.hid hr8
                    have Hb8 := Lib.hid hb8
                    clear hr8 hb8 u3 HOF
                    go_wp2_with fail
                    refine HSM.out.mono ?_
                    rintro e w9 ⟨rfl, hb9⟩
                    have HB9 : Hid (Below w6.heap.size w6 w9) := Lib.hid (HB8.out.trans (hb9.mono HB8.out.size))
                    have HK9 : Hid (Bk w9 (w6.heap.size + 1) 76 #[.slice A15 0 d15, .slice (some ⟨b6, o6, none⟩) 1 d16, .slice A17 0 d17, .slice A18 R1.length d18, .slice A19 0 d19, .int .i64 0]) := Lib.hid ((hb9.block _ (Nat.lt_of_lt_of_le z7 Hb8.out.size)).trans ((Hb8.out.block _ z7).trans HK7.out))
                    have HR9 : Hid (Rd w9 w9.heap.size A9 R1.length 1 (cIs R1)) := Lib.hid ((HR8.out.below hb9 (Nat.le_refl _)).mono hb9.size)
                    have HV9 : Hid (Rd w9 w9.heap.size A18 R1.length 1 (cIs (R1.map (15 - ·)))) := Lib.hid ((HV2.out.below HB9.out (Nat.le_refl _)).mono HB9.out.size)
                    have k3 : w9.cell? ⟨w6.heap.size + 1, 3, none⟩ = some (.slice A18 R1.length d18) := HK9.out.cell 3
                    have z9 := HK9.out.lt
                    have HBF : Hid (Below w.heap.size w w9) := Lib.hid (HB6.out.trans (HB9.out.mono hz6))
                    clear hb9 HSM k1 u8
                    go_wp2_with fail
                    go_loopw [23] (fun i wr => ∃ k : Nat, k ≤ R1.length ∧ i = .int .i64 k ∧ Below w9.heap.size w9 wr) (fun i _ => R1.length - (intOf i).toNat)
                    case atStart => exact ⟨0, Nat.zero_le _, rfl, Below.refl _ _⟩
                    case round =>
                      obtain ⟨wy, rfl⟩ : ∃ x, x = wr := ⟨_, rfl⟩
                      obtain ⟨k9, hk9, rfl, hb10⟩ := hrel
                      have k3' : wy.cell? ⟨w6.heap.size + 1, 3, none⟩ = some (.slice A18 R1.length d18) := ((bcell hb10).1 _ _ z9).trans k3
                      have HBy9 := Lib.hid hb10
                      by_cases hlt9 : k9 < R1.length
                      · obtain ⟨b11, o11, x, rfl, hx, q11⟩ := ints_at HR9.out hb10 hlt9
                        obtain ⟨b12, o12, y, rfl, hy, q12⟩ := ints_at HV9.out hb10 hlt9
                        have exy : y = 15 - x := by
                          have h := hy.out
                          rw [List.getElem?_map, hx.out] at h
                          simpa using h.symm
                        subst exy
                        obtain ⟨hx81, hx82⟩ := HRM.out x (List.mem_of_getElem? hx.out)
                        clear hx hy hb10
                        go_wp2_with fail
                        go_quiet (fail)
                        go_wp2_with fail
                        go_roundw
                        case rel => exact ⟨k9 + 1, by omega, by simp, below_drewN HBy9.out _⟩
                        case measure => simp [intOf]; omega
                      · go_wp2_with fail
                        go_ret
                        exact ⟨rfl, HBF.out.trans (HBy9.out.mono HBF.out.size)⟩
                  · by_cases hne : ns = []
                    · subst hne
                      have hp : parseL (cS 16 ++ pLook ++ [114, 101, 118, 101, 114, 115, 101] ++ pRule ++ moreB ([].map gN) ++ pMid ++ moreB (([].map (15 - ·)).map gN)) = .ok (pairF true []) := by
                        have h := pair_right true [] hns.out.2 hns.out.1 hnl
                        rw [psrc_eq, show moreB ([] : List B) = [] from rfl, List.append_nil] at h
                        exact h
                      generalize cS 16 = S0 at *
                      have em1 : moreB ([].map gN) = [] := rfl
                      have em2 : moreB (([].map (15 - ·)).map gN) = [] := rfl
                      rw [em1, em2] at hp
                      rw [em1, em2]
                      clear em1 em2
                      obtain ⟨M1, hM1⟩ : ∃ x : B, ([] : B) = x := ⟨_, rfl⟩
                      clear hM1 M1
                      unfold pLook pRule pMid at hp
                      have hapQ1 : (ByteArray.mk S0.toArray) ++ ⟨#[108, 111, 111, 107, 117, 112, 32]⟩ = ⟨(S0 ++ [108, 111, 111, 107, 117, 112, 32]).toArray⟩ := app_list S0 [108, 111, 111, 107, 117, 112, 32]
                      have hlQ1 : (S0 ++ [108, 111, 111, 107, 117, 112, 32]).length ≤ 400 := by rw [List.length_append]; simp only [List.length_cons, List.length_nil]; omega
                      generalize hQ1 : S0 ++ [108, 111, 111, 107, 117, 112, 32] = Q1 at *
                      have hapQ2 : (ByteArray.mk Q1.toArray) ++ ⟨#[114, 101, 118, 101, 114, 115, 101]⟩ = ⟨(Q1 ++ [114, 101, 118, 101, 114, 115, 101]).toArray⟩ := app_list Q1 [114, 101, 118, 101, 114, 115, 101]
                      have hlQ2 : (Q1 ++ [114, 101, 118, 101, 114, 115, 101]).length ≤ 420 := by rw [List.length_append]; simp only [List.length_cons, List.length_nil]; omega
                      generalize hQ2 : Q1 ++ [114, 101, 118, 101, 114, 115, 101] = Q2 at *
                      have hapQ3 : (ByteArray.mk Q2.toArray) ++ ⟨#[10, 114, 117, 108, 101, 32, 47, 32, 91]⟩ = ⟨(Q2 ++ [10, 114, 117, 108, 101, 32, 47, 32, 91]).toArray⟩ := app_list Q2 [10, 114, 117, 108, 101, 32, 47, 32, 91]
                      have hlQ3 : (Q2 ++ [10, 114, 117, 108, 101, 32, 47, 32, 91]).length ≤ 440 := by rw [List.length_append]; simp only [List.length_cons, List.length_nil]; omega
                      generalize hQ3 : Q2 ++ [10, 114, 117, 108, 101, 32, 47, 32, 91] = Q3 at *
                      have hapQ4 : (ByteArray.mk Q3.toArray) ++ ⟨#[]⟩ = ⟨(Q3 ++ []).toArray⟩ := app_list Q3 []
                      have hlQ4 : (Q3 ++ []).length ≤ 600 := by rw [List.length_append]; simp only [List.length_cons, List.length_nil]; omega
                      generalize hQ4 : Q3 ++ [] = Q4 at *
                      have hapQ5 : (ByteArray.mk Q4.toArray) ++ ⟨#[32, 93, 32, 47, 32, 62]⟩ = ⟨(Q4 ++ [32, 93, 32, 47, 32, 62]).toArray⟩ := app_list Q4 [32, 93, 32, 47, 32, 62]
                      have hlQ5 : (Q4 ++ [32, 93, 32, 47, 32, 62]).length ≤ 640 := by rw [List.length_append]; simp only [List.length_cons, List.length_nil]; omega
                      generalize hQ5 : Q4 ++ [32, 93, 32, 47, 32, 62] = Q5 at *
                      have hapQ6 : (ByteArray.mk Q5.toArray) ++ ⟨#[]⟩ = ⟨(Q5 ++ []).toArray⟩ := app_list Q5 []
                      have hlQ6 : (Q5 ++ []).length ≤ 800 := by rw [List.length_append]; simp only [List.length_cons, List.length_nil]; omega
                      generalize hQ6 : Q5 ++ [] = Q6 at *
                      have HP := Lib.hid hp
                      clear hp hQ1 hQ2 hQ3 hQ4 hQ5 hQ6
                      have hf := parseFont_ok w3 Q6 (by omega) (HTB.out.below HBw.out) (Nat.le_trans hnT HBx.out.size)
                      rw [HP.out] at hf
                      have HF := Lib.hid hf
                      clear hf HP
                      go_wp2_with fail
                      refine HF.out.mono ?_
                      rintro e w6 ⟨hb6, fc, rfl, hfn⟩
                      obtain ⟨A1, d1, A2, d2, b3, o3, d3, A4, d4, A5, d5, A6, d6, A7, d7, A8, d8, b4, o4, d14, A15, d15, b6, o6, d16, A17, d17, A18, d18, A19, d19, B1, e1, rfl, ⟨zb3, zb4, zb6⟩, g2, p0, p1, p2, p3, p4, p5, u3, v1, v2⟩ := pair_fnt hfn
                      have HB6 : Hid (Below w.heap.size w w6) := Lib.hid (HBx.out.trans (hb6.mono HBx.out.size))
                      have hz6 := HB6.out.size
                      have HO6 := Lib.hid (own_below HO3.out hb6)
                      have hsl1 := Nat.le_trans (setOf_len []) hnl
                      have HOF := Lib.hid (fun W h => of_ok W A [].length ca [] h (by omega))
                      have HRM : Hid (∀ x ∈ setOf [], In 8 x) := Lib.hid (fun x hx => hns.out.2 x ((setOf_mem x _).1 hx))
                      clear hb6 hfn HF
                      generalize setOf [] = R1 at *
                      rw [List.length_map] at p3 v2
                      have HV1 := Lib.hid v1
                      have HV2 := Lib.hid v2
                      clear v1 v2
                      go_wp2_with fail
                      generalize hW7 : (World.alloc (World.alloc w6 _) _) = W7
                      have hk7 : Bk W7 (w6.heap.size + 1) 76 #[.slice A15 0 d15, .slice (some ⟨b6, o6, none⟩) 1 d16, .slice A17 0 d17, .slice A18 R1.length d18, .slice A19 0 d19, .int .i64 0] := by
                        rw [← hW7]
                        have h := Bk.new (w6.alloc (.cells #[.int .i64 0, .slice A1 (gGs 16).length d1, .slice A2 0 d2, .slice (some ⟨b3, o3, none⟩) 1 d3, .slice A4 0 d4, .slice A5 0 d5, .slice A6 0 d6, .slice A7 0 d7, .slice A8 0 d8] tFnt)) 76 #[.slice A15 0 d15, .slice (some ⟨b6, o6, none⟩) 1 d16, .slice A17 0 d17, .slice A18 R1.length d18, .slice A19 0 d19, .int .i64 0]
                        simpa using h
                      have hb7 : Below w6.heap.size w6 W7 := by rw [← hW7]; exact ((Below.refl _ _).alloc (Nat.le_refl _) _).alloc (by simp) _
                      have HK7 := Lib.hid hk7
                      have HB7 := Lib.hid hb7
                      have z7 : w6.heap.size + 1 < W7.heap.size := hk7.lt
                      clear hW7 hk7 hb7 g2 p0 p1 p2 p3 p4 p5
                      refine (HOF.out W7 (own_rdI (own_below HO6.out HB7.out))).mono ?_
                      rintro e w8 ⟨⟨A9, c9, rfl, hr8⟩, hb8⟩
                      have HB8 : Hid (Below w6.heap.size w6 w8) := Lib.hid (HB7.out.trans (hb8.mono HB7.out.size))
                      have k1 : w8.cell? ⟨w6.heap.size + 1, 1, none⟩ = some (.slice (some ⟨b6, o6, none⟩) 1 d16) := ((bcell hb8).1 _ _ z7).trans (HK7.out.cell 1)
                      have u8 : w8.cell? ⟨b6, o6, none⟩ = some (.slice B1 R1.length e1) := ((bcell HB8.out).1 _ _ zb6).trans u3
                      have HSM := Lib.hid (same06_self w8 B1 A9 R1.length R1.length e1 c9 R1 ((HV1.out.below HB8.out (Nat.le_refl _)).mono HB8.out.size) hr8 (by omega))
                      have HR8 := Lib.hid hr8
                      have Hb8 := Lib.hid hb8
                      clear hr8 hb8 u3 HOF
                      go_wp2_with fail
                      refine HSM.out.mono ?_
                      rintro e w9 ⟨rfl, hb9⟩
                      have HB9 : Hid (Below w6.heap.size w6 w9) := Lib.hid (HB8.out.trans (hb9.mono HB8.out.size))
                      have HK9 : Hid (Bk w9 (w6.heap.size + 1) 76 #[.slice A15 0 d15, .slice (some ⟨b6, o6, none⟩) 1 d16, .slice A17 0 d17, .slice A18 R1.length d18, .slice A19 0 d19, .int .i64 0]) := Lib.hid ((hb9.block _ (Nat.lt_of_lt_of_le z7 Hb8.out.size)).trans ((Hb8.out.block _ z7).trans HK7.out))
                      have HR9 : Hid (Rd w9 w9.heap.size A9 R1.length 1 (cIs R1)) := Lib.hid ((HR8.out.below hb9 (Nat.le_refl _)).mono hb9.size)
                      have HV9 : Hid (Rd w9 w9.heap.size A18 R1.length 1 (cIs (R1.map (15 - ·)))) := Lib.hid ((HV2.out.below HB9.out (Nat.le_refl _)).mono HB9.out.size)
                      have k3 : w9.cell? ⟨w6.heap.size + 1, 3, none⟩ = some (.slice A18 R1.length d18) := HK9.out.cell 3
                      have z9 := HK9.out.lt
                      have HBF : Hid (Below w.heap.size w w9) := Lib.hid (HB6.out.trans (HB9.out.mono hz6))
                      clear hb9 HSM k1 u8
                      go_wp2_with fail
                      go_loopw [23] (fun i wr => ∃ k : Nat, k ≤ R1.length ∧ i = .int .i64 k ∧ Below w9.heap.size w9 wr) (fun i _ => R1.length - (intOf i).toNat)
                      case atStart => exact ⟨0, Nat.zero_le _, rfl, Below.refl _ _⟩
                      case round =>
                        obtain ⟨wy, rfl⟩ : ∃ x, x = wr := ⟨_, rfl⟩
                        obtain ⟨k9, hk9, rfl, hb10⟩ := hrel
                        have k3' : wy.cell? ⟨w6.heap.size + 1, 3, none⟩ = some (.slice A18 R1.length d18) := ((bcell hb10).1 _ _ z9).trans k3
                        have HBy9 := Lib.hid hb10
                        by_cases hlt9 : k9 < R1.length
                        · obtain ⟨b11, o11, x, rfl, hx, q11⟩ := ints_at HR9.out hb10 hlt9
                          obtain ⟨b12, o12, y, rfl, hy, q12⟩ := ints_at HV9.out hb10 hlt9
                          have exy : y = 15 - x := by
                            have h := hy.out
                            rw [List.getElem?_map, hx.out] at h
                            simpa using h.symm
                          subst exy
                          obtain ⟨hx81, hx82⟩ := HRM.out x (List.mem_of_getElem? hx.out)
                          clear hx hy hb10
                          go_wp2_with fail
                          go_quiet (fail)
                          go_wp2_with fail
                          go_roundw
                          case rel => exact ⟨k9 + 1, by omega, by simp, below_drewN HBy9.out _⟩
                          case measure => simp [intOf]; omega
                        · go_wp2_with fail
                          go_ret
                          exact ⟨rfl, HBF.out.trans (HBy9.out.mono HBF.out.size)⟩
                    · obtain ⟨a, r0, hns0⟩ : ∃ a r0, ns = a :: r0 := List.exists_cons_of_ne_nil hne
                      have ha : a ∈ ns := by rw [hns0]; simp
                      have hnp : 0 < ns.length := by rw [hns0]; simp
                      have hp : parseL (cS 16 ++ pLook ++ [114, 101, 118, 101, 114, 115, 101] ++ pRule ++ (moreB (ns.map gN) ++ [32, 103] ++ itB a) ++ pMid ++ (moreB ((ns.map (15 - ·)).map gN) ++ [32, 103, 48])) = .error (18, 24) := by
                        have h := pair_twice true ns hns.out.2 hnl a ha
                        rw [psrc_eq, show moreB ([] : List B) = [] from rfl, List.append_nil, more_sn, more_sn] at h
                        have e1 : gN 0 = [103, 48] := by decide +kernel
                        rw [e1] at h
                        simpa [gN, pLook, pRule, pMid, kName] using h
                      obtain ⟨b6, o6, a2, rfl, ha2, q6⟩ := ints_at (own_rdI HO.out) HB3.out hnp
                      simp only [Nat.add_zero] at q6
                      have ea : a2 = a := by have := ha2.out; rw [hns0] at this; simpa using this.symm
                      subst ea
                      obtain ⟨a81, a82⟩ := hns.out.2 a2 ha
                      have HDA := Lib.hid (fun w' => decimal_ok w' a2 ⟨by omega, by omega⟩)
                      have hila := it_len a2 ⟨by omega, by omega⟩
                      have hnl0 : ns.length ≤ 8 := hnl
                      clear hns0 hne ha ha2
                      generalize cS 16 = S0 at *
                      generalize moreB (ns.map gN) = M1 at *
                      generalize moreB ((ns.map (15 - ·)).map gN) = M2 at *
                      generalize itB a2 = D1 at *
                      have hapL1 : (ByteArray.mk M1.toArray) ++ ⟨#[32, 103]⟩ = ⟨(M1 ++ [32, 103]).toArray⟩ := app_list M1 [32, 103]
                      have hlL1 : (M1 ++ [32, 103]).length ≤ 100 := by rw [List.length_append]; simp only [List.length_cons, List.length_nil]; omega
                      generalize hL1 : M1 ++ [32, 103] = L1 at *
                      have hapL2 : (ByteArray.mk L1.toArray) ++ ⟨D1.toArray⟩ = ⟨(L1 ++ D1).toArray⟩ := app_list L1 D1
                      have hlL2 : (L1 ++ D1).length ≤ 120 := by rw [List.length_append]; omega
                      generalize hL2 : L1 ++ D1 = L2 at *
                      have hapR1 : (ByteArray.mk M2.toArray) ++ ⟨#[32, 103, 48]⟩ = ⟨(M2 ++ [32, 103, 48]).toArray⟩ := app_list M2 [32, 103, 48]
                      have hlR1 : (M2 ++ [32, 103, 48]).length ≤ 100 := by rw [List.length_append]; simp only [List.length_cons, List.length_nil]; omega
                      generalize hR1 : M2 ++ [32, 103, 48] = R1 at *
                      unfold pLook pRule pMid at hp
                      have hapQ1 : (ByteArray.mk S0.toArray) ++ ⟨#[108, 111, 111, 107, 117, 112, 32]⟩ = ⟨(S0 ++ [108, 111, 111, 107, 117, 112, 32]).toArray⟩ := app_list S0 [108, 111, 111, 107, 117, 112, 32]
                      have hlQ1 : (S0 ++ [108, 111, 111, 107, 117, 112, 32]).length ≤ 400 := by rw [List.length_append]; simp only [List.length_cons, List.length_nil]; omega
                      generalize hQ1 : S0 ++ [108, 111, 111, 107, 117, 112, 32] = Q1 at *
                      have hapQ2 : (ByteArray.mk Q1.toArray) ++ ⟨#[114, 101, 118, 101, 114, 115, 101]⟩ = ⟨(Q1 ++ [114, 101, 118, 101, 114, 115, 101]).toArray⟩ := app_list Q1 [114, 101, 118, 101, 114, 115, 101]
                      have hlQ2 : (Q1 ++ [114, 101, 118, 101, 114, 115, 101]).length ≤ 420 := by rw [List.length_append]; simp only [List.length_cons, List.length_nil]; omega
                      generalize hQ2 : Q1 ++ [114, 101, 118, 101, 114, 115, 101] = Q2 at *
                      have hapQ3 : (ByteArray.mk Q2.toArray) ++ ⟨#[10, 114, 117, 108, 101, 32, 47, 32, 91]⟩ = ⟨(Q2 ++ [10, 114, 117, 108, 101, 32, 47, 32, 91]).toArray⟩ := app_list Q2 [10, 114, 117, 108, 101, 32, 47, 32, 91]
                      have hlQ3 : (Q2 ++ [10, 114, 117, 108, 101, 32, 47, 32, 91]).length ≤ 440 := by rw [List.length_append]; simp only [List.length_cons, List.length_nil]; omega
                      generalize hQ3 : Q2 ++ [10, 114, 117, 108, 101, 32, 47, 32, 91] = Q3 at *
                      have hapQ4 : (ByteArray.mk Q3.toArray) ++ ⟨L2.toArray⟩ = ⟨(Q3 ++ L2).toArray⟩ := app_list Q3 L2
                      have hlQ4 : (Q3 ++ L2).length ≤ 600 := by rw [List.length_append]; omega
                      generalize hQ4 : Q3 ++ L2 = Q4 at *
                      have hapQ5 : (ByteArray.mk Q4.toArray) ++ ⟨#[32, 93, 32, 47, 32, 62]⟩ = ⟨(Q4 ++ [32, 93, 32, 47, 32, 62]).toArray⟩ := app_list Q4 [32, 93, 32, 47, 32, 62]
                      have hlQ5 : (Q4 ++ [32, 93, 32, 47, 32, 62]).length ≤ 640 := by rw [List.length_append]; simp only [List.length_cons, List.length_nil]; omega
                      generalize hQ5 : Q4 ++ [32, 93, 32, 47, 32, 62] = Q5 at *
                      have hapQ6 : (ByteArray.mk Q5.toArray) ++ ⟨R1.toArray⟩ = ⟨(Q5 ++ R1).toArray⟩ := app_list Q5 R1
                      have hlQ6 : (Q5 ++ R1).length ≤ 800 := by rw [List.length_append]; omega
                      generalize hQ6 : Q5 ++ R1 = Q6 at *
                      have HP := Lib.hid hp
                      clear hp hQ1 hQ2 hQ3 hQ4 hQ5 hQ6 hL1 hL2 hR1
                      have zb6 : b6 < w3.heap.size := World.block_lt_of_cell? w3 _ q6
                      go_wp2_with fail
                      refine (HDA.out _).mono ?_
                      rintro e w4 ⟨rfl, hb4⟩
                      have HBy : Hid (Below w1.heap.size w1 w4) := Lib.hid (HBw.out.trans (hb4.mono HBw.out.size))
                      have HBz : Hid (Below w.heap.size w w4) := Lib.hid (HB1.out.trans (HBy.out.mono hz1))
                      clear hb4 HDA
                      have hf := parseFont_ok w4 Q6 (by omega) (HTB.out.below HBy.out) (Nat.le_trans hnT HBz.out.size)
                      rw [HP.out] at hf
                      have HF := Lib.hid hf
                      clear hf HP
                      go_wp2_with fail
                      refine HF.out.mono ?_
                      rintro e w6 ⟨hb6, rfl⟩
                      have HB6 : Hid (Below w.heap.size w w6) := Lib.hid (HBz.out.trans (hb6.mono HBz.out.size))
                      have hz6 := HB6.out.size
                      clear hb6 HF
                      go_wp2_with fail
                      go_ret
                      exact ⟨rfl, HB6.out.alloc hz6 _⟩
                  · have hp : parseL (cS 16 ++ pLook ++ [114, 101, 118, 101, 114, 115, 101] ++ pRule ++ moreB (ns.map gN) ++ pMid ++ (moreB ((ns.map (15 - ·)).map gN) ++ [32, 103, 49])) = .error (18, 22) := by
                      have h := pair_more true ns hns.out.2 hns.out.1 hnl
                      rw [psrc_eq, show moreB ([] : List B) = [] from rfl, List.append_nil, more_sn] at h
                      have e1 : gN 1 = [103, 49] := by decide +kernel
                      rw [e1] at h
                      exact h
                    generalize cS 16 = S0 at *
                    generalize moreB (ns.map gN) = M1 at *
                    generalize moreB ((ns.map (15 - ·)).map gN) = M2 at *
                    have hapR1 : (ByteArray.mk M2.toArray) ++ ⟨#[32, 103, 49]⟩ = ⟨(M2 ++ [32, 103, 49]).toArray⟩ := app_list M2 [32, 103, 49]
                    have hlR1 : (M2 ++ [32, 103, 49]).length ≤ 100 := by rw [List.length_append]; simp only [List.length_cons, List.length_nil]; omega
                    generalize hR1 : M2 ++ [32, 103, 49] = R1 at *
                    unfold pLook pRule pMid at hp
                    have hapQ1 : (ByteArray.mk S0.toArray) ++ ⟨#[108, 111, 111, 107, 117, 112, 32]⟩ = ⟨(S0 ++ [108, 111, 111, 107, 117, 112, 32]).toArray⟩ := app_list S0 [108, 111, 111, 107, 117, 112, 32]
                    have hlQ1 : (S0 ++ [108, 111, 111, 107, 117, 112, 32]).length ≤ 400 := by rw [List.length_append]; simp only [List.length_cons, List.length_nil]; omega
                    generalize hQ1 : S0 ++ [108, 111, 111, 107, 117, 112, 32] = Q1 at *
                    have hapQ2 : (ByteArray.mk Q1.toArray) ++ ⟨#[114, 101, 118, 101, 114, 115, 101]⟩ = ⟨(Q1 ++ [114, 101, 118, 101, 114, 115, 101]).toArray⟩ := app_list Q1 [114, 101, 118, 101, 114, 115, 101]
                    have hlQ2 : (Q1 ++ [114, 101, 118, 101, 114, 115, 101]).length ≤ 420 := by rw [List.length_append]; simp only [List.length_cons, List.length_nil]; omega
                    generalize hQ2 : Q1 ++ [114, 101, 118, 101, 114, 115, 101] = Q2 at *
                    have hapQ3 : (ByteArray.mk Q2.toArray) ++ ⟨#[10, 114, 117, 108, 101, 32, 47, 32, 91]⟩ = ⟨(Q2 ++ [10, 114, 117, 108, 101, 32, 47, 32, 91]).toArray⟩ := app_list Q2 [10, 114, 117, 108, 101, 32, 47, 32, 91]
                    have hlQ3 : (Q2 ++ [10, 114, 117, 108, 101, 32, 47, 32, 91]).length ≤ 440 := by rw [List.length_append]; simp only [List.length_cons, List.length_nil]; omega
                    generalize hQ3 : Q2 ++ [10, 114, 117, 108, 101, 32, 47, 32, 91] = Q3 at *
                    have hapQ4 : (ByteArray.mk Q3.toArray) ++ ⟨M1.toArray⟩ = ⟨(Q3 ++ M1).toArray⟩ := app_list Q3 M1
                    have hlQ4 : (Q3 ++ M1).length ≤ 600 := by rw [List.length_append]; omega
                    generalize hQ4 : Q3 ++ M1 = Q4 at *
                    have hapQ5 : (ByteArray.mk Q4.toArray) ++ ⟨#[32, 93, 32, 47, 32, 62]⟩ = ⟨(Q4 ++ [32, 93, 32, 47, 32, 62]).toArray⟩ := app_list Q4 [32, 93, 32, 47, 32, 62]
                    have hlQ5 : (Q4 ++ [32, 93, 32, 47, 32, 62]).length ≤ 640 := by rw [List.length_append]; simp only [List.length_cons, List.length_nil]; omega
                    generalize hQ5 : Q4 ++ [32, 93, 32, 47, 32, 62] = Q5 at *
                    have hapQ6 : (ByteArray.mk Q5.toArray) ++ ⟨R1.toArray⟩ = ⟨(Q5 ++ R1).toArray⟩ := app_list Q5 R1
                    have hlQ6 : (Q5 ++ R1).length ≤ 800 := by rw [List.length_append]; omega
                    generalize hQ6 : Q5 ++ R1 = Q6 at *
                    have HP := Lib.hid hp
                    clear hp hQ1 hQ2 hQ3 hQ4 hQ5 hQ6 hR1
                    have hf := parseFont_ok w3 Q6 (by omega) (HTB.out.below HBw.out) (Nat.le_trans hnT HBx.out.size)
                    rw [HP.out] at hf
                    have HF := Lib.hid hf
                    clear hf HP
                    go_wp2_with fail
                    refine HF.out.mono ?_
                    rintro e w6 ⟨hb6, rfl⟩
                    have HB6 : Hid (Below w.heap.size w w6) := Lib.hid (HBx.out.trans (hb6.mono HBx.out.size))
                    have hz6 := HB6.out.size
                    clear hb6 HF
                    go_wp2_with fail
                    go_ret
                    exact ⟨rfl, HB6.out.alloc hz6 _⟩
                  · have hp : parseL (cS 16 ++ pLook ++ [114, 101, 118, 101, 114, 115, 101] ++ pRule ++ moreB (ns.map gN) ++ pMid ++ (moreB ((ns.map (15 - ·)).map gN) ++ [32, 103, 49, 54])) = .error (18, 23) := by
                      have h := pair_name true ns hns.out.2 hnl
                      have e1 : moreB [gN 16] = [32, 103, 49, 54] := by decide +kernel
                      rw [psrc_eq, e1] at h
                      exact h
                    generalize cS 16 = S0 at *
                    generalize moreB (ns.map gN) = M1 at *
                    generalize moreB ((ns.map (15 - ·)).map gN) = M2 at *
                    have hapR1 : (ByteArray.mk M2.toArray) ++ ⟨#[32, 103, 49, 54]⟩ = ⟨(M2 ++ [32, 103, 49, 54]).toArray⟩ := app_list M2 [32, 103, 49, 54]
                    have hlR1 : (M2 ++ [32, 103, 49, 54]).length ≤ 100 := by rw [List.length_append]; simp only [List.length_cons, List.length_nil]; omega
                    generalize hR1 : M2 ++ [32, 103, 49, 54] = R1 at *
                    unfold pLook pRule pMid at hp
                    have hapQ1 : (ByteArray.mk S0.toArray) ++ ⟨#[108, 111, 111, 107, 117, 112, 32]⟩ = ⟨(S0 ++ [108, 111, 111, 107, 117, 112, 32]).toArray⟩ := app_list S0 [108, 111, 111, 107, 117, 112, 32]
                    have hlQ1 : (S0 ++ [108, 111, 111, 107, 117, 112, 32]).length ≤ 400 := by rw [List.length_append]; simp only [List.length_cons, List.length_nil]; omega
                    generalize hQ1 : S0 ++ [108, 111, 111, 107, 117, 112, 32] = Q1 at *
                    have hapQ2 : (ByteArray.mk Q1.toArray) ++ ⟨#[114, 101, 118, 101, 114, 115, 101]⟩ = ⟨(Q1 ++ [114, 101, 118, 101, 114, 115, 101]).toArray⟩ := app_list Q1 [114, 101, 118, 101, 114, 115, 101]
                    have hlQ2 : (Q1 ++ [114, 101, 118, 101, 114, 115, 101]).length ≤ 420 := by rw [List.length_append]; simp only [List.length_cons, List.length_nil]; omega
                    generalize hQ2 : Q1 ++ [114, 101, 118, 101, 114, 115, 101] = Q2 at *
                    have hapQ3 : (ByteArray.mk Q2.toArray) ++ ⟨#[10, 114, 117, 108, 101, 32, 47, 32, 91]⟩ = ⟨(Q2 ++ [10, 114, 117, 108, 101, 32, 47, 32, 91]).toArray⟩ := app_list Q2 [10, 114, 117, 108, 101, 32, 47, 32, 91]
                    have hlQ3 : (Q2 ++ [10, 114, 117, 108, 101, 32, 47, 32, 91]).length ≤ 440 := by rw [List.length_append]; simp only [List.length_cons, List.length_nil]; omega
                    generalize hQ3 : Q2 ++ [10, 114, 117, 108, 101, 32, 47, 32, 91] = Q3 at *
                    have hapQ4 : (ByteArray.mk Q3.toArray) ++ ⟨M1.toArray⟩ = ⟨(Q3 ++ M1).toArray⟩ := app_list Q3 M1
                    have hlQ4 : (Q3 ++ M1).length ≤ 600 := by rw [List.length_append]; omega
                    generalize hQ4 : Q3 ++ M1 = Q4 at *
                    have hapQ5 : (ByteArray.mk Q4.toArray) ++ ⟨#[32, 93, 32, 47, 32, 62]⟩ = ⟨(Q4 ++ [32, 93, 32, 47, 32, 62]).toArray⟩ := app_list Q4 [32, 93, 32, 47, 32, 62]
                    have hlQ5 : (Q4 ++ [32, 93, 32, 47, 32, 62]).length ≤ 640 := by rw [List.length_append]; simp only [List.length_cons, List.length_nil]; omega
                    generalize hQ5 : Q4 ++ [32, 93, 32, 47, 32, 62] = Q5 at *
                    have hapQ6 : (ByteArray.mk Q5.toArray) ++ ⟨R1.toArray⟩ = ⟨(Q5 ++ R1).toArray⟩ := app_list Q5 R1
                    have hlQ6 : (Q5 ++ R1).length ≤ 800 := by rw [List.length_append]; omega
                    generalize hQ6 : Q5 ++ R1 = Q6 at *
                    have HP := Lib.hid hp
                    clear hp hQ1 hQ2 hQ3 hQ4 hQ5 hQ6 hR1
                    have hf := parseFont_ok w3 Q6 (by omega) (HTB.out.below HBw.out) (Nat.le_trans hnT HBx.out.size)
                    rw [HP.out] at hf
                    have HF := Lib.hid hf
                    clear hf HP
                    go_wp2_with fail
                    refine HF.out.mono ?_
                    rintro e w6 ⟨hb6, rfl⟩
                    have HB6 : Hid (Below w.heap.size w w6) := Lib.hid (HBx.out.trans (hb6.mono HBx.out.size))
                    have hz6 := HB6.out.size
                    clear hb6 HF
                    go_wp2_with fail
                    go_ret
                    exact ⟨rfl, HB6.out.alloc hz6 _⟩
                | false =>
                  rcases hqq with rfl | rfl | rfl | rfl
                  · have hp : parseL (cS 16 ++ pLook ++ [115, 105, 110, 103, 108, 101] ++ pRule ++ moreB (ns.map gN) ++ pMid ++ moreB ((ns.map (15 - ·)).map gN)) = .ok (pairF false ns) := by
                      have h := pair_right false ns hns.out.2 hns.out.1 hnl
                      rw [psrc_eq, show moreB ([] : List B) = [] from rfl, List.append_nil] at h
                      exact h
                    generalize cS 16 = S0 at *
                    generalize moreB (ns.map gN) = M1 at *
                    generalize moreB ((ns.map (15 - ·)).map gN) = M2 at *
                    unfold pLook pRule pMid at hp
                    have hapQ1 : (ByteArray.mk S0.toArray) ++ ⟨#[108, 111, 111, 107, 117, 112, 32]⟩ = ⟨(S0 ++ [108, 111, 111, 107, 117, 112, 32]).toArray⟩ := app_list S0 [108, 111, 111, 107, 117, 112, 32]
                    have hlQ1 : (S0 ++ [108, 111, 111, 107, 117, 112, 32]).length ≤ 400 := by rw [List.length_append]; simp only [List.length_cons, List.length_nil]; omega
                    generalize hQ1 : S0 ++ [108, 111, 111, 107, 117, 112, 32] = Q1 at *
                    have hapQ2 : (ByteArray.mk Q1.toArray) ++ ⟨#[115, 105, 110, 103, 108, 101]⟩ = ⟨(Q1 ++ [115, 105, 110, 103, 108, 101]).toArray⟩ := app_list Q1 [115, 105, 110, 103, 108, 101]
                    have hlQ2 : (Q1 ++ [115, 105, 110, 103, 108, 101]).length ≤ 420 := by rw [List.length_append]; simp only [List.length_cons, List.length_nil]; omega
                    generalize hQ2 : Q1 ++ [115, 105, 110, 103, 108, 101] = Q2 at *
                    have hapQ3 : (ByteArray.mk Q2.toArray) ++ ⟨#[10, 114, 117, 108, 101, 32, 47, 32, 91]⟩ = ⟨(Q2 ++ [10, 114, 117, 108, 101, 32, 47, 32, 91]).toArray⟩ := app_list Q2 [10, 114, 117, 108, 101, 32, 47, 32, 91]
                    have hlQ3 : (Q2 ++ [10, 114, 117, 108, 101, 32, 47, 32, 91]).length ≤ 440 := by rw [List.length_append]; simp only [List.length_cons, List.length_nil]; omega
                    generalize hQ3 : Q2 ++ [10, 114, 117, 108, 101, 32, 47, 32, 91] = Q3 at *
                    have hapQ4 : (ByteArray.mk Q3.toArray) ++ ⟨M1.toArray⟩ = ⟨(Q3 ++ M1).toArray⟩ := app_list Q3 M1
                    have hlQ4 : (Q3 ++ M1).length ≤ 600 := by rw [List.length_append]; omega
                    generalize hQ4 : Q3 ++ M1 = Q4 at *
                    have hapQ5 : (ByteArray.mk Q4.toArray) ++ ⟨#[32, 93, 32, 47, 32, 62]⟩ = ⟨(Q4 ++ [32, 93, 32, 47, 32, 62]).toArray⟩ := app_list Q4 [32, 93, 32, 47, 32, 62]
                    have hlQ5 : (Q4 ++ [32, 93, 32, 47, 32, 62]).length ≤ 640 := by rw [List.length_append]; simp only [List.length_cons, List.length_nil]; omega
                    generalize hQ5 : Q4 ++ [32, 93, 32, 47, 32, 62] = Q5 at *
                    have hapQ6 : (ByteArray.mk Q5.toArray) ++ ⟨M2.toArray⟩ = ⟨(Q5 ++ M2).toArray⟩ := app_list Q5 M2
                    have hlQ6 : (Q5 ++ M2).length ≤ 800 := by rw [List.length_append]; omega
                    generalize hQ6 : Q5 ++ M2 = Q6 at *
                    have HP := Lib.hid hp
                    clear hp hQ1 hQ2 hQ3 hQ4 hQ5 hQ6
                    have hf := parseFont_ok w3 Q6 (by omega) (HTB.out.below HBw.out) (Nat.le_trans hnT HBx.out.size)
                    rw [HP.out] at hf
                    have HF := Lib.hid hf
                    clear hf HP
                    go_wp2_with fail
                    refine HF.out.mono ?_
                    rintro e w6 ⟨hb6, fc, rfl, hfn⟩
                    obtain ⟨A1, d1, A2, d2, b3, o3, d3, A4, d4, A5, d5, A6, d6, A7, d7, A8, d8, b4, o4, d14, A15, d15, b6, o6, d16, A17, d17, A18, d18, A19, d19, B1, e1, rfl, ⟨zb3, zb4, zb6⟩, g2, p0, p1, p2, p3, p4, p5, u3, v1, v2⟩ := pair_fnt hfn
                    have HB6 : Hid (Below w.heap.size w w6) := Lib.hid (HBx.out.trans (hb6.mono HBx.out.size))
                    have hz6 := HB6.out.size
                    have HO6 := Lib.hid (own_below HO3.out hb6)
                    have hsl1 := Nat.le_trans (setOf_len ns) hnl
                    have HOF := Lib.hid (fun W h => of_ok W A ns.length ca ns h (by omega))
                    have HRM : Hid (∀ x ∈ setOf ns, In 8 x) := Lib.hid (fun x hx => hns.out.2 x ((setOf_mem x _).1 hx))
                    clear hb6 hfn HF
                    generalize setOf ns = R1 at *
                    rw [List.length_map] at p3 v2
                    have HV1 := Lib.hid v1
                    have HV2 := Lib.hid v2
                    clear v1 v2
                    go_wp2_with fail
                    generalize hW7 : (World.alloc (World.alloc w6 _) _) = W7
                    have hk7 : Bk W7 (w6.heap.size + 1) 76 #[.slice A15 0 d15, .slice (some ⟨b6, o6, none⟩) 1 d16, .slice A17 0 d17, .slice A18 R1.length d18, .slice A19 0 d19, .int .i64 0] := by
                      rw [← hW7]
                      have h := Bk.new (w6.alloc (.cells #[.int .i64 0, .slice A1 (gGs 16).length d1, .slice A2 0 d2, .slice (some ⟨b3, o3, none⟩) 1 d3, .slice A4 0 d4, .slice A5 0 d5, .slice A6 0 d6, .slice A7 0 d7, .slice A8 0 d8] tFnt)) 76 #[.slice A15 0 d15, .slice (some ⟨b6, o6, none⟩) 1 d16, .slice A17 0 d17, .slice A18 R1.length d18, .slice A19 0 d19, .int .i64 0]
                      simpa using h
                    have hb7 : Below w6.heap.size w6 W7 := by rw [← hW7]; exact ((Below.refl _ _).alloc (Nat.le_refl _) _).alloc (by simp) _
                    have HK7 := Lib.hid hk7
                    have HB7 := Lib.hid hb7
                    have z7 : w6.heap.size + 1 < W7.heap.size := hk7.lt
                    clear hW7 hk7 hb7 g2 p0 p1 p2 p3 p4 p5
                    refine (HOF.out W7 (own_rdI (own_below HO6.out HB7.out))).mono ?_
                    rintro e w8 ⟨⟨A9, c9, rfl, hr8⟩, hb8⟩
                    have HB8 : Hid (Below w6.heap.size w6 w8) := Lib.hid (HB7.out.trans (hb8.mono HB7.out.size))
                    have k1 : w8.cell? ⟨w6.heap.size + 1, 1, none⟩ = some (.slice (some ⟨b6, o6, none⟩) 1 d16) := ((bcell hb8).1 _ _ z7).trans (HK7.out.cell 1)
                    have u8 : w8.cell? ⟨b6, o6, none⟩ = some (.slice B1 R1.length e1) := ((bcell HB8.out).1 _ _ zb6).trans u3
                    have HSM := Lib.hid (same06_self w8 B1 A9 R1.length R1.length e1 c9 R1 ((HV1.out.below HB8.out (Nat.le_refl _)).mono HB8.out.size) hr8 (by omega))
                    have HR8 := Lib.hid hr8
                    have Hb8 := Lib.hid hb8
                    clear hr8 hb8 u3 HOF
                    go_wp2_with fail
                    refine HSM.out.mono ?_
                    rintro e w9 ⟨rfl, hb9⟩
                    have HB9 : Hid (Below w6.heap.size w6 w9) := Lib.hid (HB8.out.trans (hb9.mono HB8.out.size))
                    have HK9 : Hid (Bk w9 (w6.heap.size + 1) 76 #[.slice A15 0 d15, .slice (some ⟨b6, o6, none⟩) 1 d16, .slice A17 0 d17, .slice A18 R1.length d18, .slice A19 0 d19, .int .i64 0]) := Lib.hid ((hb9.block _ (Nat.lt_of_lt_of_le z7 Hb8.out.size)).trans ((Hb8.out.block _ z7).trans HK7.out))
                    have HR9 : Hid (Rd w9 w9.heap.size A9 R1.length 1 (cIs R1)) := Lib.hid ((HR8.out.below hb9 (Nat.le_refl _)).mono hb9.size)
                    have HV9 : Hid (Rd w9 w9.heap.size A18 R1.length 1 (cIs (R1.map (15 - ·)))) := Lib.hid ((HV2.out.below HB9.out (Nat.le_refl _)).mono HB9.out.size)
                    have k3 : w9.cell? ⟨w6.heap.size + 1, 3, none⟩ = some (.slice A18 R1.length d18) := HK9.out.cell 3
                    have z9 := HK9.out.lt
                    have HBF : Hid (Below w.heap.size w w9) := Lib.hid (HB6.out.trans (HB9.out.mono hz6))
                    clear hb9 HSM k1 u8
                    go_wp2_with fail
                    go_loopw [23] (fun i wr => ∃ k : Nat, k ≤ R1.length ∧ i = .int .i64 k ∧ Below w9.heap.size w9 wr) (fun i _ => R1.length - (intOf i).toNat)
                    case atStart => exact ⟨0, Nat.zero_le _, rfl, Below.refl _ _⟩
                    case round =>
                      obtain ⟨wy, rfl⟩ : ∃ x, x = wr := ⟨_, rfl⟩
                      obtain ⟨k9, hk9, rfl, hb10⟩ := hrel
                      have k3' : wy.cell? ⟨w6.heap.size + 1, 3, none⟩ = some (.slice A18 R1.length d18) := ((bcell hb10).1 _ _ z9).trans k3
                      have HBy9 := Lib.hid hb10
                      by_cases hlt9 : k9 < R1.length
                      · obtain ⟨b11, o11, x, rfl, hx, q11⟩ := ints_at HR9.out hb10 hlt9
                        obtain ⟨b12, o12, y, rfl, hy, q12⟩ := ints_at HV9.out hb10 hlt9
                        have exy : y = 15 - x := by
                          have h := hy.out
                          rw [List.getElem?_map, hx.out] at h
                          simpa using h.symm
                        subst exy
                        obtain ⟨hx81, hx82⟩ := HRM.out x (List.mem_of_getElem? hx.out)
                        clear hx hy hb10
                        go_wp2_with fail
                        go_quiet (fail)
                        go_wp2_with fail
                        go_roundw
                        case rel => exact ⟨k9 + 1, by omega, by simp, below_drewN HBy9.out _⟩
                        case measure => simp [intOf]; omega
                      · go_wp2_with fail
                        go_ret
                        exact ⟨rfl, HBF.out.trans (HBy9.out.mono HBF.out.size)⟩
                  · by_cases hne : ns = []
                    · subst hne
                      have hp : parseL (cS 16 ++ pLook ++ [115, 105, 110, 103, 108, 101] ++ pRule ++ moreB ([].map gN) ++ pMid ++ moreB (([].map (15 - ·)).map gN)) = .ok (pairF false []) := by
                        have h := pair_right false [] hns.out.2 hns.out.1 hnl
                        rw [psrc_eq, show moreB ([] : List B) = [] from rfl, List.append_nil] at h
                        exact h
                      generalize cS 16 = S0 at *
                      have em1 : moreB ([].map gN) = [] := rfl
                      have em2 : moreB (([].map (15 - ·)).map gN) = [] := rfl
                      rw [em1, em2] at hp
                      rw [em1, em2]
                      clear em1 em2
                      obtain ⟨M1, hM1⟩ : ∃ x : B, ([] : B) = x := ⟨_, rfl⟩
                      clear hM1 M1
                      unfold pLook pRule pMid at hp
                      have hapQ1 : (ByteArray.mk S0.toArray) ++ ⟨#[108, 111, 111, 107, 117, 112, 32]⟩ = ⟨(S0 ++ [108, 111, 111, 107, 117, 112, 32]).toArray⟩ := app_list S0 [108, 111, 111, 107, 117, 112, 32]
                      have hlQ1 : (S0 ++ [108, 111, 111, 107, 117, 112, 32]).length ≤ 400 := by rw [List.length_append]; simp only [List.length_cons, List.length_nil]; omega
                      generalize hQ1 : S0 ++ [108, 111, 111, 107, 117, 112, 32] = Q1 at *
                      have hapQ2 : (ByteArray.mk Q1.toArray) ++ ⟨#[115, 105, 110, 103, 108, 101]⟩ = ⟨(Q1 ++ [115, 105, 110, 103, 108, 101]).toArray⟩ := app_list Q1 [115, 105, 110, 103, 108, 101]
                      have hlQ2 : (Q1 ++ [115, 105, 110, 103, 108, 101]).length ≤ 420 := by rw [List.length_append]; simp only [List.length_cons, List.length_nil]; omega
                      generalize hQ2 : Q1 ++ [115, 105, 110, 103, 108, 101] = Q2 at *
                      have hapQ3 : (ByteArray.mk Q2.toArray) ++ ⟨#[10, 114, 117, 108, 101, 32, 47, 32, 91]⟩ = ⟨(Q2 ++ [10, 114, 117, 108, 101, 32, 47, 32, 91]).toArray⟩ := app_list Q2 [10, 114, 117, 108, 101, 32, 47, 32, 91]
                      have hlQ3 : (Q2 ++ [10, 114, 117, 108, 101, 32, 47, 32, 91]).length ≤ 440 := by rw [List.length_append]; simp only [List.length_cons, List.length_nil]; omega
                      generalize hQ3 : Q2 ++ [10, 114, 117, 108, 101, 32, 47, 32, 91] = Q3 at *
                      have hapQ4 : (ByteArray.mk Q3.toArray) ++ ⟨#[]⟩ = ⟨(Q3 ++ []).toArray⟩ := app_list Q3 []
                      have hlQ4 : (Q3 ++ []).length ≤ 600 := by rw [List.length_append]; simp only [List.length_cons, List.length_nil]; omega
                      generalize hQ4 : Q3 ++ [] = Q4 at *
                      have hapQ5 : (ByteArray.mk Q4.toArray) ++ ⟨#[32, 93, 32, 47, 32, 62]⟩ = ⟨(Q4 ++ [32, 93, 32, 47, 32, 62]).toArray⟩ := app_list Q4 [32, 93, 32, 47, 32, 62]
                      have hlQ5 : (Q4 ++ [32, 93, 32, 47, 32, 62]).length ≤ 640 := by rw [List.length_append]; simp only [List.length_cons, List.length_nil]; omega
                      generalize hQ5 : Q4 ++ [32, 93, 32, 47, 32, 62] = Q5 at *
                      have hapQ6 : (ByteArray.mk Q5.toArray) ++ ⟨#[]⟩ = ⟨(Q5 ++ []).toArray⟩ := app_list Q5 []
                      have hlQ6 : (Q5 ++ []).length ≤ 800 := by rw [List.length_append]; simp only [List.length_cons, List.length_nil]; omega
                      generalize hQ6 : Q5 ++ [] = Q6 at *
                      have HP := Lib.hid hp
                      clear hp hQ1 hQ2 hQ3 hQ4 hQ5 hQ6
                      have hf := parseFont_ok w3 Q6 (by omega) (HTB.out.below HBw.out) (Nat.le_trans hnT HBx.out.size)
                      rw [HP.out] at hf
                      have HF := Lib.hid hf
                      clear hf HP
                      go_wp2_with fail
                      refine HF.out.mono ?_
                      rintro e w6 ⟨hb6, fc, rfl, hfn⟩
                      obtain ⟨A1, d1, A2, d2, b3, o3, d3, A4, d4, A5, d5, A6, d6, A7, d7, A8, d8, b4, o4, d14, A15, d15, b6, o6, d16, A17, d17, A18, d18, A19, d19, B1, e1, rfl, ⟨zb3, zb4, zb6⟩, g2, p0, p1, p2, p3, p4, p5, u3, v1, v2⟩ := pair_fnt hfn
                      have HB6 : Hid (Below w.heap.size w w6) := Lib.hid (HBx.out.trans (hb6.mono HBx.out.size))
                      have hz6 := HB6.out.size
                      have HO6 := Lib.hid (own_below HO3.out hb6)
                      have hsl1 := Nat.le_trans (setOf_len []) hnl
                      have HOF := Lib.hid (fun W h => of_ok W A [].length ca [] h (by omega))
                      have HRM : Hid (∀ x ∈ setOf [], In 8 x) := Lib.hid (fun x hx => hns.out.2 x ((setOf_mem x _).1 hx))
                      clear hb6 hfn HF
                      generalize setOf [] = R1 at *
                      rw [List.length_map] at p3 v2
                      have HV1 := Lib.hid v1
                      have HV2 := Lib.hid v2
                      clear v1 v2
                      go_wp2_with fail
                      generalize hW7 : (World.alloc (World.alloc w6 _) _) = W7
                      have hk7 : Bk W7 (w6.heap.size + 1) 76 #[.slice A15 0 d15, .slice (some ⟨b6, o6, none⟩) 1 d16, .slice A17 0 d17, .slice A18 R1.length d18, .slice A19 0 d19, .int .i64 0] := by
                        rw [← hW7]
                        have h := Bk.new (w6.alloc (.cells #[.int .i64 0, .slice A1 (gGs 16).length d1, .slice A2 0 d2, .slice (some ⟨b3, o3, none⟩) 1 d3, .slice A4 0 d4, .slice A5 0 d5, .slice A6 0 d6, .slice A7 0 d7, .slice A8 0 d8] tFnt)) 76 #[.slice A15 0 d15, .slice (some ⟨b6, o6, none⟩) 1 d16, .slice A17 0 d17, .slice A18 R1.length d18, .slice A19 0 d19, .int .i64 0]
                        simpa using h
                      have hb7 : Below w6.heap.size w6 W7 := by rw [← hW7]; exact ((Below.refl _ _).alloc (Nat.le_refl _) _).alloc (by simp) _
                      have HK7 := Lib.hid hk7
                      have HB7 := Lib.hid hb7
                      have z7 : w6.heap.size + 1 < W7.heap.size := hk7.lt
                      clear hW7 hk7 hb7 g2 p0 p1 p2 p3 p4 p5
                      refine (HOF.out W7 (own_rdI (own_below HO6.out HB7.out))).mono ?_
                      rintro e w8 ⟨⟨A9, c9, rfl, hr8⟩, hb8⟩
                      have HB8 : Hid (Below w6.heap.size w6 w8) := Lib.hid (HB7.out.trans (hb8.mono HB7.out.size))
                      have k1 : w8.cell? ⟨w6.heap.size + 1, 1, none⟩ = some (.slice (some ⟨b6, o6, none⟩) 1 d16) := ((bcell hb8).1 _ _ z7).trans (HK7.out.cell 1)
                      have u8 : w8.cell? ⟨b6, o6, none⟩ = some (.slice B1 R1.length e1) := ((bcell HB8.out).1 _ _ zb6).trans u3
                      have HSM := Lib.hid (same06_self w8 B1 A9 R1.length R1.length e1 c9 R1 ((HV1.out.below HB8.out (Nat.le_refl _)).mono HB8.out.size) hr8 (by omega))
                      have HR8 := Lib.hid hr8
                      have Hb8 := Lib.hid hb8
                      clear hr8 hb8 u3 HOF
                      go_wp2_with fail
                      refine HSM.out.mono ?_
                      rintro e w9 ⟨rfl, hb9⟩
                      have HB9 : Hid (Below w6.heap.size w6 w9) := Lib.hid (HB8.out.trans (hb9.mono HB8.out.size))
                      have HK9 : Hid (Bk w9 (w6.heap.size + 1) 76 #[.slice A15 0 d15, .slice (some ⟨b6, o6, none⟩) 1 d16, .slice A17 0 d17, .slice A18 R1.length d18, .slice A19 0 d19, .int .i64 0]) := Lib.hid ((hb9.block _ (Nat.lt_of_lt_of_le z7 Hb8.out.size)).trans ((Hb8.out.block _ z7).trans HK7.out))
                      have HR9 : Hid (Rd w9 w9.heap.size A9 R1.length 1 (cIs R1)) := Lib.hid ((HR8.out.below hb9 (Nat.le_refl _)).mono hb9.size)
                      have HV9 : Hid (Rd w9 w9.heap.size A18 R1.length 1 (cIs (R1.map (15 - ·)))) := Lib.hid ((HV2.out.below HB9.out (Nat.le_refl _)).mono HB9.out.size)
                      have k3 : w9.cell? ⟨w6.heap.size + 1, 3, none⟩ = some (.slice A18 R1.length d18) := HK9.out.cell 3
                      have z9 := HK9.out.lt
                      have HBF : Hid (Below w.heap.size w w9) := Lib.hid (HB6.out.trans (HB9.out.mono hz6))
                      clear hb9 HSM k1 u8
                      go_wp2_with fail
                      go_loopw [23] (fun i wr => ∃ k : Nat, k ≤ R1.length ∧ i = .int .i64 k ∧ Below w9.heap.size w9 wr) (fun i _ => R1.length - (intOf i).toNat)
                      case atStart => exact ⟨0, Nat.zero_le _, rfl, Below.refl _ _⟩
                      case round =>
                        obtain ⟨wy, rfl⟩ : ∃ x, x = wr := ⟨_, rfl⟩
                        obtain ⟨k9, hk9, rfl, hb10⟩ := hrel
                        have k3' : wy.cell? ⟨w6.heap.size + 1, 3, none⟩ = some (.slice A18 R1.length d18) := ((bcell hb10).1 _ _ z9).trans k3
                        have HBy9 := Lib.hid hb10
                        by_cases hlt9 : k9 < R1.length
                        · obtain ⟨b11, o11, x, rfl, hx, q11⟩ := ints_at HR9.out hb10 hlt9
                          obtain ⟨b12, o12, y, rfl, hy, q12⟩ := ints_at HV9.out hb10 hlt9
                          have exy : y = 15 - x := by
                            have h := hy.out
                            rw [List.getElem?_map, hx.out] at h
                            simpa using h.symm
                          subst exy
                          obtain ⟨hx81, hx82⟩ := HRM.out x (List.mem_of_getElem? hx.out)
                          clear hx hy hb10
                          go_wp2_with fail
                          go_quiet (fail)
                          go_wp2_with fail
                          go_roundw
                          case rel => exact ⟨k9 + 1, by omega, by simp, below_drewN HBy9.out _⟩
                          case measure => simp [intOf]; omega
                        · go_wp2_with fail
                          go_ret
                          exact ⟨rfl, HBF.out.trans (HBy9.out.mono HBF.out.size)⟩
                    · obtain ⟨a, r0, hns0⟩ : ∃ a r0, ns = a :: r0 := List.exists_cons_of_ne_nil hne
                      have ha : a ∈ ns := by rw [hns0]; simp
                      have hnp : 0 < ns.length := by rw [hns0]; simp
                      have hp : parseL (cS 16 ++ pLook ++ [115, 105, 110, 103, 108, 101] ++ pRule ++ (moreB (ns.map gN) ++ [32, 103] ++ itB a) ++ pMid ++ (moreB ((ns.map (15 - ·)).map gN) ++ [32, 103, 48])) = .error (18, 24) := by
                        have h := pair_twice false ns hns.out.2 hnl a ha
                        rw [psrc_eq, show moreB ([] : List B) = [] from rfl, List.append_nil, more_sn, more_sn] at h
                        have e1 : gN 0 = [103, 48] := by decide +kernel
                        rw [e1] at h
                        simpa [gN, pLook, pRule, pMid, kName] using h
                      obtain ⟨b6, o6, a2, rfl, ha2, q6⟩ := ints_at (own_rdI HO.out) HB3.out hnp
                      simp only [Nat.add_zero] at q6
                      have ea : a2 = a := by have := ha2.out; rw [hns0] at this; simpa using this.symm
                      subst ea
                      obtain ⟨a81, a82⟩ := hns.out.2 a2 ha
                      have HDA := Lib.hid (fun w' => decimal_ok w' a2 ⟨by omega, by omega⟩)
                      have hila := it_len a2 ⟨by omega, by omega⟩
                      have hnl0 : ns.length ≤ 8 := hnl
                      clear hns0 hne ha ha2
                      generalize cS 16 = S0 at *
                      generalize moreB (ns.map gN) = M1 at *
                      generalize moreB ((ns.map (15 - ·)).map gN) = M2 at *
                      generalize itB a2 = D1 at *
                      have hapL1 : (ByteArray.mk M1.toArray) ++ ⟨#[32, 103]⟩ = ⟨(M1 ++ [32, 103]).toArray⟩ := app_list M1 [32, 103]
                      have hlL1 : (M1 ++ [32, 103]).length ≤ 100 := by rw [List.length_append]; simp only [List.length_cons, List.length_nil]; omega
                      generalize hL1 : M1 ++ [32, 103] = L1 at *
                      have hapL2 : (ByteArray.mk L1.toArray) ++ ⟨D1.toArray⟩ = ⟨(L1 ++ D1).toArray⟩ := app_list L1 D1
                      have hlL2 : (L1 ++ D1).length ≤ 120 := by rw [List.length_append]; omega
                      generalize hL2 : L1 ++ D1 = L2 at *
                      have hapR1 : (ByteArray.mk M2.toArray) ++ ⟨#[32, 103, 48]⟩ = ⟨(M2 ++ [32, 103, 48]).toArray⟩ := app_list M2 [32, 103, 48]
                      have hlR1 : (M2 ++ [32, 103, 48]).length ≤ 100 := by rw [List.length_append]; simp only [List.length_cons, List.length_nil]; omega
                      generalize hR1 : M2 ++ [32, 103, 48] = R1 at *
                      unfold pLook pRule pMid at hp
                      have hapQ1 : (ByteArray.mk S0.toArray) ++ ⟨#[108, 111, 111, 107, 117, 112, 32]⟩ = ⟨(S0 ++ [108, 111, 111, 107, 117, 112, 32]).toArray⟩ := app_list S0 [108, 111, 111, 107, 117, 112, 32]
                      have hlQ1 : (S0 ++ [108, 111, 111, 107, 117, 112, 32]).length ≤ 400 := by rw [List.length_append]; simp only [List.length_cons, List.length_nil]; omega
                      generalize hQ1 : S0 ++ [108, 111, 111, 107, 117, 112, 32] = Q1 at *
                      have hapQ2 : (ByteArray.mk Q1.toArray) ++ ⟨#[115, 105, 110, 103, 108, 101]⟩ = ⟨(Q1 ++ [115, 105, 110, 103, 108, 101]).toArray⟩ := app_list Q1 [115, 105, 110, 103, 108, 101]
                      have hlQ2 : (Q1 ++ [115, 105, 110, 103, 108, 101]).length ≤ 420 := by rw [List.length_append]; simp only [List.length_cons, List.length_nil]; omega
                      generalize hQ2 : Q1 ++ [115, 105, 110, 103, 108, 101] = Q2 at *
                      have hapQ3 : (ByteArray.mk Q2.toArray) ++ ⟨#[10, 114, 117, 108, 101, 32, 47, 32, 91]⟩ = ⟨(Q2 ++ [10, 114, 117, 108, 101, 32, 47, 32, 91]).toArray⟩ := app_list Q2 [10, 114, 117, 108, 101, 32, 47, 32, 91]
                      have hlQ3 : (Q2 ++ [10, 114, 117, 108, 101, 32, 47, 32, 91]).length ≤ 440 := by rw [List.length_append]; simp only [List.length_cons, List.length_nil]; omega
                      generalize hQ3 : Q2 ++ [10, 114, 117, 108, 101, 32, 47, 32, 91] = Q3 at *
                      have hapQ4 : (ByteArray.mk Q3.toArray) ++ ⟨L2.toArray⟩ = ⟨(Q3 ++ L2).toArray⟩ := app_list Q3 L2
                      have hlQ4 : (Q3 ++ L2).length ≤ 600 := by rw [List.length_append]; omega
                      generalize hQ4 : Q3 ++ L2 = Q4 at *
                      have hapQ5 : (ByteArray.mk Q4.toArray) ++ ⟨#[32, 93, 32, 47, 32, 62]⟩ = ⟨(Q4 ++ [32, 93, 32, 47, 32, 62]).toArray⟩ := app_list Q4 [32, 93, 32, 47, 32, 62]
                      have hlQ5 : (Q4 ++ [32, 93, 32, 47, 32, 62]).length ≤ 640 := by rw [List.length_append]; simp only [List.length_cons, List.length_nil]; omega
                      generalize hQ5 : Q4 ++ [32, 93, 32, 47, 32, 62] = Q5 at *
                      have hapQ6 : (ByteArray.mk Q5.toArray) ++ ⟨R1.toArray⟩ = ⟨(Q5 ++ R1).toArray⟩ := app_list Q5 R1
                      have hlQ6 : (Q5 ++ R1).length ≤ 800 := by rw [List.length_append]; omega
                      generalize hQ6 : Q5 ++ R1 = Q6 at *
                      have HP := Lib.hid hp
                      clear hp hQ1 hQ2 hQ3 hQ4 hQ5 hQ6 hL1 hL2 hR1
                      have zb6 : b6 < w3.heap.size := World.block_lt_of_cell? w3 _ q6
                      go_wp2_with fail
                      refine (HDA.out _).mono ?_
                      rintro e w4 ⟨rfl, hb4⟩
                      have HBy : Hid (Below w1.heap.size w1 w4) := Lib.hid (HBw.out.trans (hb4.mono HBw.out.size))
                      have HBz : Hid (Below w.heap.size w w4) := Lib.hid (HB1.out.trans (HBy.out.mono hz1))
                      clear hb4 HDA
                      have hf := parseFont_ok w4 Q6 (by omega) (HTB.out.below HBy.out) (Nat.le_trans hnT HBz.out.size)
                      rw [HP.out] at hf
                      have HF := Lib.hid hf
                      clear hf HP
                      go_wp2_with fail
                      refine HF.out.mono ?_
                      rintro e w6 ⟨hb6, rfl⟩
                      have HB6 : Hid (Below w.heap.size w w6) := Lib.hid (HBz.out.trans (hb6.mono HBz.out.size))
                      have hz6 := HB6.out.size
                      clear hb6 HF
                      go_wp2_with fail
                      go_ret
                      exact ⟨rfl, HB6.out.alloc hz6 _⟩
                  · have hp : parseL (cS 16 ++ pLook ++ [115, 105, 110, 103, 108, 101] ++ pRule ++ moreB (ns.map gN) ++ pMid ++ (moreB ((ns.map (15 - ·)).map gN) ++ [32, 103, 49])) = .error (18, 22) := by
                      have h := pair_more false ns hns.out.2 hns.out.1 hnl
                      rw [psrc_eq, show moreB ([] : List B) = [] from rfl, List.append_nil, more_sn] at h
                      have e1 : gN 1 = [103, 49] := by decide +kernel
                      rw [e1] at h
                      exact h
                    generalize cS 16 = S0 at *
                    generalize moreB (ns.map gN) = M1 at *
                    generalize moreB ((ns.map (15 - ·)).map gN) = M2 at *
                    have hapR1 : (ByteArray.mk M2.toArray) ++ ⟨#[32, 103, 49]⟩ = ⟨(M2 ++ [32, 103, 49]).toArray⟩ := app_list M2 [32, 103, 49]
                    have hlR1 : (M2 ++ [32, 103, 49]).length ≤ 100 := by rw [List.length_append]; simp only [List.length_cons, List.length_nil]; omega
                    generalize hR1 : M2 ++ [32, 103, 49] = R1 at *
                    unfold pLook pRule pMid at hp
                    have hapQ1 : (ByteArray.mk S0.toArray) ++ ⟨#[108, 111, 111, 107, 117, 112, 32]⟩ = ⟨(S0 ++ [108, 111, 111, 107, 117, 112, 32]).toArray⟩ := app_list S0 [108, 111, 111, 107, 117, 112, 32]
                    have hlQ1 : (S0 ++ [108, 111, 111, 107, 117, 112, 32]).length ≤ 400 := by rw [List.length_append]; simp only [List.length_cons, List.length_nil]; omega
                    generalize hQ1 : S0 ++ [108, 111, 111, 107, 117, 112, 32] = Q1 at *
                    have hapQ2 : (ByteArray.mk Q1.toArray) ++ ⟨#[115, 105, 110, 103, 108, 101]⟩ = ⟨(Q1 ++ [115, 105, 110, 103, 108, 101]).toArray⟩ := app_list Q1 [115, 105, 110, 103, 108, 101]
                    have hlQ2 : (Q1 ++ [115, 105, 110, 103, 108, 101]).length ≤ 420 := by rw [List.length_append]; simp only [List.length_cons, List.length_nil]; omega
                    generalize hQ2 : Q1 ++ [115, 105, 110, 103, 108, 101] = Q2 at *
                    have hapQ3 : (ByteArray.mk Q2.toArray) ++ ⟨#[10, 114, 117, 108, 101, 32, 47, 32, 91]⟩ = ⟨(Q2 ++ [10, 114, 117, 108, 101, 32, 47, 32, 91]).toArray⟩ := app_list Q2 [10, 114, 117, 108, 101, 32, 47, 32, 91]
                    have hlQ3 : (Q2 ++ [10, 114, 117, 108, 101, 32, 47, 32, 91]).length ≤ 440 := by rw [List.length_append]; simp only [List.length_cons, List.length_nil]; omega
                    generalize hQ3 : Q2 ++ [10, 114, 117, 108, 101, 32, 47, 32, 91] = Q3 at *
                    have hapQ4 : (ByteArray.mk Q3.toArray) ++ ⟨M1.toArray⟩ = ⟨(Q3 ++ M1).toArray⟩ := app_list Q3 M1
                    have hlQ4 : (Q3 ++ M1).length ≤ 600 := by rw [List.length_append]; omega
                    generalize hQ4 : Q3 ++ M1 = Q4 at *
                    have hapQ5 : (ByteArray.mk Q4.toArray) ++ ⟨#[32, 93, 32, 47, 32, 62]⟩ = ⟨(Q4 ++ [32, 93, 32, 47, 32, 62]).toArray⟩ := app_list Q4 [32, 93, 32, 47, 32, 62]
                    have hlQ5 : (Q4 ++ [32, 93, 32, 47, 32, 62]).length ≤ 640 := by rw [List.length_append]; simp only [List.length_cons, List.length_nil]; omega
                    generalize hQ5 : Q4 ++ [32, 93, 32, 47, 32, 62] = Q5 at *
                    have hapQ6 : (ByteArray.mk Q5.toArray) ++ ⟨R1.toArray⟩ = ⟨(Q5 ++ R1).toArray⟩ := app_list Q5 R1
                    have hlQ6 : (Q5 ++ R1).length ≤ 800 := by rw [List.length_append]; omega
                    generalize hQ6 : Q5 ++ R1 = Q6 at *
                    have HP := Lib.hid hp
                    clear hp hQ1 hQ2 hQ3 hQ4 hQ5 hQ6 hR1
                    have hf := parseFont_ok w3 Q6 (by omega) (HTB.out.below HBw.out) (Nat.le_trans hnT HBx.out.size)
                    rw [HP.out] at hf
                    have HF := Lib.hid hf
                    clear hf HP
                    go_wp2_with fail
                    refine HF.out.mono ?_
                    rintro e w6 ⟨hb6, rfl⟩
                    have HB6 : Hid (Below w.heap.size w w6) := Lib.hid (HBx.out.trans (hb6.mono HBx.out.size))
                    have hz6 := HB6.out.size
                    clear hb6 HF
                    go_wp2_with fail
                    go_ret
                    exact ⟨rfl, HB6.out.alloc hz6 _⟩
                  · have hp : parseL (cS 16 ++ pLook ++ [115, 105, 110, 103, 108, 101] ++ pRule ++ moreB (ns.map gN) ++ pMid ++ (moreB ((ns.map (15 - ·)).map gN) ++ [32, 103, 49, 54])) = .error (18, 23) := by
                      have h := pair_name false ns hns.out.2 hnl
                      have e1 : moreB [gN 16] = [32, 103, 49, 54] := by decide +kernel
                      rw [psrc_eq, e1] at h
                      exact h
                    generalize cS 16 = S0 at *
                    generalize moreB (ns.map gN) = M1 at *
                    generalize moreB ((ns.map (15 - ·)).map gN) = M2 at *
                    have hapR1 : (ByteArray.mk M2.toArray) ++ ⟨#[32, 103, 49, 54]⟩ = ⟨(M2 ++ [32, 103, 49, 54]).toArray⟩ := app_list M2 [32, 103, 49, 54]
                    have hlR1 : (M2 ++ [32, 103, 49, 54]).length ≤ 100 := by rw [List.length_append]; simp only [List.length_cons, List.length_nil]; omega
                    generalize hR1 : M2 ++ [32, 103, 49, 54] = R1 at *
                    unfold pLook pRule pMid at hp
                    have hapQ1 : (ByteArray.mk S0.toArray) ++ ⟨#[108, 111, 111, 107, 117, 112, 32]⟩ = ⟨(S0 ++ [108, 111, 111, 107, 117, 112, 32]).toArray⟩ := app_list S0 [108, 111, 111, 107, 117, 112, 32]
                    have hlQ1 : (S0 ++ [108, 111, 111, 107, 117, 112, 32]).length ≤ 400 := by rw [List.length_append]; simp only [List.length_cons, List.length_nil]; omega
                    generalize hQ1 : S0 ++ [108, 111, 111, 107, 117, 112, 32] = Q1 at *
                    have hapQ2 : (ByteArray.mk Q1.toArray) ++ ⟨#[115, 105, 110, 103, 108, 101]⟩ = ⟨(Q1 ++ [115, 105, 110, 103, 108, 101]).toArray⟩ := app_list Q1 [115, 105, 110, 103, 108, 101]
                    have hlQ2 : (Q1 ++ [115, 105, 110, 103, 108, 101]).length ≤ 420 := by rw [List.length_append]; simp only [List.length_cons, List.length_nil]; omega
                    generalize hQ2 : Q1 ++ [115, 105, 110, 103, 108, 101] = Q2 at *
                    have hapQ3 : (ByteArray.mk Q2.toArray) ++ ⟨#[10, 114, 117, 108, 101, 32, 47, 32, 91]⟩ = ⟨(Q2 ++ [10, 114, 117, 108, 101, 32, 47, 32, 91]).toArray⟩ := app_list Q2 [10, 114, 117, 108, 101, 32, 47, 32, 91]
                    have hlQ3 : (Q2 ++ [10, 114, 117, 108, 101, 32, 47, 32, 91]).length ≤ 440 := by rw [List.length_append]; simp only [List.length_cons, List.length_nil]; omega
                    generalize hQ3 : Q2 ++ [10, 114, 117, 108, 101, 32, 47, 32, 91] = Q3 at *
                    have hapQ4 : (ByteArray.mk Q3.toArray) ++ ⟨M1.toArray⟩ = ⟨(Q3 ++ M1).toArray⟩ := app_list Q3 M1
                    have hlQ4 : (Q3 ++ M1).length ≤ 600 := by rw [List.length_append]; omega
                    generalize hQ4 : Q3 ++ M1 = Q4 at *
                    have hapQ5 : (ByteArray.mk Q4.toArray) ++ ⟨#[32, 93, 32, 47, 32, 62]⟩ = ⟨(Q4 ++ [32, 93, 32, 47, 32, 62]).toArray⟩ := app_list Q4 [32, 93, 32, 47, 32, 62]
                    have hlQ5 : (Q4 ++ [32, 93, 32, 47, 32, 62]).length ≤ 640 := by rw [List.length_append]; simp only [List.length_cons, List.length_nil]; omega
                    generalize hQ5 : Q4 ++ [32, 93, 32, 47, 32, 62] = Q5 at *
                    have hapQ6 : (ByteArray.mk Q5.toArray) ++ ⟨R1.toArray⟩ = ⟨(Q5 ++ R1).toArray⟩ := app_list Q5 R1
                    have hlQ6 : (Q5 ++ R1).length ≤ 800 := by rw [List.length_append]; omega
                    generalize hQ6 : Q5 ++ R1 = Q6 at *
                    have HP := Lib.hid hp
                    clear hp hQ1 hQ2 hQ3 hQ4 hQ5 hQ6 hR1
                    have hf := parseFont_ok w3 Q6 (by omega) (HTB.out.below HBw.out) (Nat.le_trans hnT HBx.out.size)
                    rw [HP.out] at hf
                    have HF := Lib.hid hf
                    clear hf HP
                    go_wp2_with fail
                    refine HF.out.mono ?_
                    rintro e w6 ⟨hb6, rfl⟩
                    have HB6 : Hid (Below w.heap.size w w6) := Lib.hid (HBx.out.trans (hb6.mono HBx.out.size))
                    have hz6 := HB6.out.size
                    clear hb6 HF
                    go_wp2_with fail
                    go_ret
                    exact ⟨rfl, HB6.out.alloc hz6 _⟩
          · clear hgo
            go_wp2_with fail
            go_loopw [13, 14, 15] (fun s t i w3 => ∃ k : Nat, k ≤ ns.length ∧ i = .int .i64 k ∧ s = .string ⟨(moreB ((ns.take k).map gN)).toArray⟩ ∧ t = .string ⟨(moreB (((ns.take k).map (15 - ·)).map gN)).toArray⟩ ∧ Below w2.heap.size w2 w3) (fun _ _ i _ => ns.length - (intOf i).toNat)
            case atStart => exact ⟨0, Nat.zero_le _, rfl, rfl, rfl, Below.refl _ _⟩
            case round =>
              obtain ⟨w3, rfl⟩ : ∃ x, x = wr := ⟨_, rfl⟩
              obtain ⟨k3, hk3, rfl, rfl, rfl, hb3⟩ := hrel
              have h16' : ∀ n ∈ (ns.take k3).map (15 - ·), In 16 n := fun n hn => by
                rw [List.mem_map] at hn
                obtain ⟨m, hm, rfl⟩ := hn
                exact in16' (hns.out.2 m (List.mem_of_mem_take hm))
              have hml := more_len3 (ns.take k3) (fun n hn => in16 (hns.out.2 n (List.mem_of_mem_take hn))) 8 (by rw [List.length_take]; omega)
              have hml2 := more_len3 ((ns.take k3).map (15 - ·)) h16' 8 (by rw [List.length_map, List.length_take]; omega)
              by_cases hlt3 : k3 < ns.length
              · obtain ⟨b6, o6, x, rfl, hx, q6⟩ := ints_at (own_rdI HO.out) hb3 hlt3
                have hx8 := hns.out.2 x (List.mem_of_getElem? hx.out)
                obtain ⟨hx1, hx2⟩ := hx8
                have e1 : Hid (moreB ((ns.take (k3 + 1)).map gN) = moreB ((ns.take k3).map gN) ++ [32, 103] ++ itB x) := by
                  show _ = _
                  rw [take_sn hx.out, more_sn]
                  simp [gN]
                have e2 : Hid (moreB (((ns.take (k3 + 1)).map (15 - ·)).map gN) = moreB (((ns.take k3).map (15 - ·)).map gN) ++ [32, 103] ++ itB (15 - x)) := by
                  show _ = _
                  rw [take_sn hx.out, List.map_append, List.map_cons, List.map_nil, more_sn]
                  simp [gN]
                have HD1 := Lib.hid (fun w' => decimal_ok w' x ⟨by omega, by omega⟩)
                have HD2 := Lib.hid (fun w' => decimal_ok w' (15 - x) ⟨by omega, by omega⟩)
                have hi1 := it_len x ⟨by omega, by omega⟩
                have hi2 := it_len (15 - x) ⟨by omega, by omega⟩
                have HB3 := Lib.hid hb3
                have z6 : b6 < w3.heap.size := World.block_lt_of_cell? w3 _ q6
                generalize moreB ((ns.take k3).map gN) = M1 at *
                generalize moreB (((ns.take k3).map (15 - ·)).map gN) = M2 at *
                generalize itB x = D1 at *
                generalize itB (15 - x) = D2 at *
                clear hb3 hx h16'
                have hapP1 : (ByteArray.mk M1.toArray) ++ ⟨#[32, 103]⟩ = ⟨(M1 ++ [32, 103]).toArray⟩ := app_list M1 [32, 103]
                have hlP1 : (M1 ++ [32, 103]).length ≤ 100 := by rw [List.length_append]; simp only [List.length_cons, List.length_nil]; omega
                generalize hP1 : M1 ++ [32, 103] = P1 at *
                have hapP2 : (ByteArray.mk P1.toArray) ++ ⟨D1.toArray⟩ = ⟨(P1 ++ D1).toArray⟩ := app_list P1 D1
                have hlP2 : (P1 ++ D1).length ≤ 120 := by rw [List.length_append]; omega
                generalize hP2 : P1 ++ D1 = P2 at *
                have hapP3 : (ByteArray.mk M2.toArray) ++ ⟨#[32, 103]⟩ = ⟨(M2 ++ [32, 103]).toArray⟩ := app_list M2 [32, 103]
                have hlP3 : (M2 ++ [32, 103]).length ≤ 100 := by rw [List.length_append]; simp only [List.length_cons, List.length_nil]; omega
                generalize hP3 : M2 ++ [32, 103] = P3 at *
                have hapP4 : (ByteArray.mk P3.toArray) ++ ⟨D2.toArray⟩ = ⟨(P3 ++ D2).toArray⟩ := app_list P3 D2
                have hlP4 : (P3 ++ D2).length ≤ 120 := by rw [List.length_append]; omega
                generalize hP4 : P3 ++ D2 = P4 at *
                clear hP1 hP2 hP3 hP4
                have tk1 : True := trivial
                go_upto_region 20 with (go_at_call 28; have _t := tk1; refine (HD1.out _).mono ?_; rintro e w4 ⟨rfl, hb4⟩; have q7 := ((bcell hb4).1 _ _ z6).trans q6; have hb4w := HB3.out.trans (hb4.mono HB3.out.size); have z7 : b6 < w4.heap.size := Nat.lt_of_lt_of_le z6 hb4.size; clear _t tk1 hb4 HD1)
                have HB4 := Lib.hid hb4w
                clear hb4w q6
                go_wp2_with fail
                refine (HD2.out _).mono ?_
                rintro e w5 ⟨rfl, hb5⟩
                have HB5 : Hid (Below w2.heap.size w2 w5) := Lib.hid (HB4.out.trans (hb5.mono HB4.out.size))
                clear hb5 HD2
                go_wp2_with fail
                go_roundw
                case rel => exact ⟨k3 + 1, by omega, by simp, by rw [e1.out], by rw [e2.out], HB5.out⟩
                case measure => simp [intOf]; omega
              · obtain rfl : k3 = ns.length := by omega
                rw [List.take_length] at *
                clear h16' hlt3
                have HB3 := Lib.hid hb3
                have hsl := cS_len 16 (by omega)
                have hc4 : ∃ q : Nat, (c : Int).tmod 4 = q ∧ q < 4 := ⟨c % 4, by rw [Int.tmod_eq_emod_of_nonneg (by omega)]; omega, Nat.mod_lt _ (by omega)⟩
                obtain ⟨q, hq, hq4⟩ := hc4
                have hqq : q = 0 ∨ q = 1 ∨ q = 2 ∨ q = 3 := by omega
                have HBw : Hid (Below w1.heap.size w1 w3) := Lib.hid (HB2b.out.trans (hb3.mono HB2b.out.size))
                have HBx : Hid (Below w.heap.size w w3) := Lib.hid (HB1.out.trans (HBw.out.mono hz1))
                have HO3 := Lib.hid (own_below HO.out hb3)
                clear hb3
                cases rev with
                | true =>
                  rcases hqq with rfl | rfl | rfl | rfl
                  · have hp : parseL (cS 16 ++ pLook ++ [114, 101, 118, 101, 114, 115, 101] ++ pRule ++ moreB (ns.map gN) ++ pMid ++ moreB ((ns.map (15 - ·)).map gN)) = .ok (pairF true ns) := by
                      have h := pair_right true ns hns.out.2 hns.out.1 hnl
                      rw [psrc_eq, show moreB ([] : List B) = [] from rfl, List.append_nil] at h
                      exact h
                    generalize cS 16 = S0 at *
                    generalize moreB (ns.map gN) = M1 at *
                    generalize moreB ((ns.map (15 - ·)).map gN) = M2 at *
                    unfold pLook pRule pMid at hp
                    have hapQ1 : (ByteArray.mk S0.toArray) ++ ⟨#[108, 111, 111, 107, 117, 112, 32]⟩ = ⟨(S0 ++ [108, 111, 111, 107, 117, 112, 32]).toArray⟩ := app_list S0 [108, 111, 111, 107, 117, 112, 32]
                    have hlQ1 : (S0 ++ [108, 111, 111, 107, 117, 112, 32]).length ≤ 400 := by rw [List.length_append]; simp only [List.length_cons, List.length_nil]; omega
                    generalize hQ1 : S0 ++ [108, 111, 111, 107, 117, 112, 32] = Q1 at *
                    have hapQ2 : (ByteArray.mk Q1.toArray) ++ ⟨#[114, 101, 118, 101, 114, 115, 101]⟩ = ⟨(Q1 ++ [114, 101, 118, 101, 114, 115, 101]).toArray⟩ := app_list Q1 [114, 101, 118, 101, 114, 115, 101]
                    have hlQ2 : (Q1 ++ [114, 101, 118, 101, 114, 115, 101]).length ≤ 420 := by rw [List.length_append]; simp only [List.length_cons, List.length_nil]; omega
                    generalize hQ2 : Q1 ++ [114, 101, 118, 101, 114, 115, 101] = Q2 at *
                    have hapQ3 : (ByteArray.mk Q2.toArray) ++ ⟨#[10, 114, 117, 108, 101, 32, 47, 32, 91]⟩ = ⟨(Q2 ++ [10, 114, 117, 108, 101, 32, 47, 32, 91]).toArray⟩ := app_list Q2 [10, 114, 117, 108, 101, 32, 47, 32, 91]
                    have hlQ3 : (Q2 ++ [10, 114, 117, 108, 101, 32, 47, 32, 91]).length ≤ 440 := by rw [List.length_append]; simp only [List.length_cons, List.length_nil]; omega
                    generalize hQ3 : Q2 ++ [10, 114, 117, 108, 101, 32, 47, 32, 91] = Q3 at *
                    have hapQ4 : (ByteArray.mk Q3.toArray) ++ ⟨M1.toArray⟩ = ⟨(Q3 ++ M1).toArray⟩ := app_list Q3 M1
                    have hlQ4 : (Q3 ++ M1).length ≤ 600 := by rw [List.length_append]; omega
                    generalize hQ4 : Q3 ++ M1 = Q4 at *
                    have hapQ5 : (ByteArray.mk Q4.toArray) ++ ⟨#[32, 93, 32, 47, 32, 62]⟩ = ⟨(Q4 ++ [32, 93, 32, 47, 32, 62]).toArray⟩ := app_list Q4 [32, 93, 32, 47, 32, 62]
                    have hlQ5 : (Q4 ++ [32, 93, 32, 47, 32, 62]).length ≤ 640 := by rw [List.length_append]; simp only [List.length_cons, List.length_nil]; omega
                    generalize hQ5 : Q4 ++ [32, 93, 32, 47, 32, 62] = Q5 at *
                    have hapQ6 : (ByteArray.mk Q5.toArray) ++ ⟨M2.toArray⟩ = ⟨(Q5 ++ M2).toArray⟩ := app_list Q5 M2
                    have hlQ6 : (Q5 ++ M2).length ≤ 800 := by rw [List.length_append]; omega
                    generalize hQ6 : Q5 ++ M2 = Q6 at *
                    have HP := Lib.hid hp
                    clear hp hQ1 hQ2 hQ3 hQ4 hQ5 hQ6
                    have hf := parseFont_ok w3 Q6 (by omega) (HTB.out.below HBw.out) (Nat.le_trans hnT HBx.out.size)
                    rw [HP.out] at hf
                    have HF := Lib.hid hf
                    clear hf HP
                    go_wp2_with fail
                    refine HF.out.mono ?_
                    rintro e w6 ⟨hb6, fc, rfl, hfn⟩
                    obtain ⟨A1, d1, A2, d2, b3, o3, d3, A4, d4, A5, d5, A6, d6, A7, d7, A8, d8, b4, o4, d14, A15, d15, b6, o6, d16, A17, d17, A18, d18, A19, d19, B1, e1, rfl, ⟨zb3, zb4, zb6⟩, g2, p0, p1, p2, p3, p4, p5, u3, v1, v2⟩ := pair_fnt hfn
                    have HB6 : Hid (Below w.heap.size w w6) := Lib.hid (HBx.out.trans (hb6.mono HBx.out.size))
                    have hz6 := HB6.out.size
                    have HO6 := Lib.hid (own_below HO3.out hb6)
                    have hsl1 := Nat.le_trans (setOf_len ns) hnl
                    have HOF := Lib.hid (fun W h => of_ok W A ns.length ca ns h (by omega))
                    have HRM : Hid (∀ x ∈ setOf ns, In 8 x) := Lib.hid (fun x hx => hns.out.2 x ((setOf_mem x _).1 hx))
                    clear hb6 hfn HF
                    generalize setOf ns = R1 at *
                    rw [List.length_map] at p3 v2
                    have HV1 := Lib.hid v1
                    have HV2 := Lib.hid v2
                    clear v1 v2
                    go_wp2_with fail
                    generalize hW7 : (World.alloc (World.alloc w6 _) _) = W7
                    have hk7 : Bk W7 (w6.heap.size + 1) 76 #[.slice A15 0 d15, .slice (some ⟨b6, o6, none⟩) 1 d16, .slice A17 0 d17, .slice A18 R1.length d18, .slice A19 0 d19, .int .i64 0] := by
                      rw [← hW7]
                      have h := Bk.new (w6.alloc (.cells #[.int .i64 0, .slice A1 (gGs 16).length d1, .slice A2 0 d2, .slice (some ⟨b3, o3, none⟩) 1 d3, .slice A4 0 d4, .slice A5 0 d5, .slice A6 0 d6, .slice A7 0 d7, .slice A8 0 d8] tFnt)) 76 #[.slice A15 0 d15, .slice (some ⟨b6, o6, none⟩) 1 d16, .slice A17 0 d17, .slice A18 R1.length d18, .slice A19 0 d19, .int .i64 0]
                      simpa using h
                    have hb7 : Below w6.heap.size w6 W7 := by rw [← hW7]; exact ((Below.refl _ _).alloc (Nat.le_refl _) _).alloc (by simp) _
                    have HK7 := Lib.hid hk7
                    have HB7 := Lib.hid hb7
                    have z7 : w6.heap.size + 1 < W7.heap.size := hk7.lt
                    clear hW7 hk7 hb7 g2 p0 p1 p2 p3 p4 p5
                    refine (HOF.out W7 (own_rdI (own_below HO6.out HB7.out))).mono ?_
                    rintro e w8 ⟨⟨A9, c9, rfl, hr8⟩, hb8⟩
                    have HB8 : Hid (Below w6.heap.size w6 w8) := Lib.hid (HB7.out.trans (hb8.mono HB7.out.size))
                    have k1 : w8.cell? ⟨w6.heap.size + 1, 1, none⟩ = some (.slice (some ⟨b6, o6, none⟩) 1 d16) := ((bcell hb8).1 _ _ z7).trans (HK7.out.cell 1)
                    have u8 : w8.cell? ⟨b6, o6, none⟩ = some (.slice B1 R1.length e1) := ((bcell HB8.out).1 _ _ zb6).trans u3
                    have HSM := Lib.hid (same06_self w8 B1 A9 R1.length R1.length e1 c9 R1 ((HV1.out.below HB8.out (Nat.le_refl _)).mono HB8.out.size) hr8 (by omega))
                    have HR8 := Lib.hid hr8
                    have Hb8 := Lib.hid hb8
                    clear hr8 hb8 u3 HOF
                    go_wp2_with fail
                    refine HSM.out.mono ?_
                    rintro e w9 ⟨rfl, hb9⟩
                    have HB9 : Hid (Below w6.heap.size w6 w9) := Lib.hid (HB8.out.trans (hb9.mono HB8.out.size))
                    have HK9 : Hid (Bk w9 (w6.heap.size + 1) 76 #[.slice A15 0 d15, .slice (some ⟨b6, o6, none⟩) 1 d16, .slice A17 0 d17, .slice A18 R1.length d18, .slice A19 0 d19, .int .i64 0]) := Lib.hid ((hb9.block _ (Nat.lt_of_lt_of_le z7 Hb8.out.size)).trans ((Hb8.out.block _ z7).trans HK7.out))
                    have HR9 : Hid (Rd w9 w9.heap.size A9 R1.length 1 (cIs R1)) := Lib.hid ((HR8.out.below hb9 (Nat.le_refl _)).mono hb9.size)
                    have HV9 : Hid (Rd w9 w9.heap.size A18 R1.length 1 (cIs (R1.map (15 - ·)))) := Lib.hid ((HV2.out.below HB9.out (Nat.le_refl _)).mono HB9.out.size)
                    have k3 : w9.cell? ⟨w6.heap.size + 1, 3, none⟩ = some (.slice A18 R1.length d18) := HK9.out.cell 3
                    have z9 := HK9.out.lt
                    have HBF : Hid (Below w.heap.size w w9) := Lib.hid (HB6.out.trans (HB9.out.mono hz6))
                    clear hb9 HSM k1 u8
                    go_wp2_with fail
                    go_loopw [23] (fun i wr => ∃ k : Nat, k ≤ R1.length ∧ i = .int .i64 k ∧ Below w9.heap.size w9 wr) (fun i _ => R1.length - (intOf i).toNat)
                    case atStart => exact ⟨0, Nat.zero_le _, rfl, Below.refl _ _⟩
                    case round =>
                      obtain ⟨wy, rfl⟩ : ∃ x, x = wr := ⟨_, rfl⟩
                      obtain ⟨k9, hk9, rfl, hb10⟩ := hrel
                      have k3' : wy.cell? ⟨w6.heap.size + 1, 3, none⟩ = some (.slice A18 R1.length d18) := ((bcell hb10).1 _ _ z9).trans k3
                      have HBy9 := Lib.hid hb10
                      by_cases hlt9 : k9 < R1.length
                      · obtain ⟨b11, o11, x, rfl, hx, q11⟩ := ints_at HR9.out hb10 hlt9
                        obtain ⟨b12, o12, y, rfl, hy, q12⟩ := ints_at HV9.out hb10 hlt9
                        have exy : y = 15 - x := by
                          have h := hy.out
                          rw [List.getElem?_map, hx.out] at h
                          simpa using h.symm
                        subst exy
                        obtain ⟨hx81, hx82⟩ := HRM.out x (List.mem_of_getElem? hx.out)
                        clear hx hy hb10
                        go_wp2_with fail
                        go_quiet (fail)
                        go_wp2_with fail
                        go_roundw
                        case rel => exact ⟨k9 + 1, by omega, by simp, below_drewN HBy9.out _⟩
                        case measure => simp [intOf]; omega
                      · go_wp2_with fail
                        go_ret
                        exact ⟨rfl, HBF.out.trans (HBy9.out.mono HBF.out.size)⟩
                  · by_cases hne : ns = []
                    · subst hne
                      have hp : parseL (cS 16 ++ pLook ++ [114, 101, 118, 101, 114, 115, 101] ++ pRule ++ moreB ([].map gN) ++ pMid ++ moreB (([].map (15 - ·)).map gN)) = .ok (pairF true []) := by
                        have h := pair_right true [] hns.out.2 hns.out.1 hnl
                        rw [psrc_eq, show moreB ([] : List B) = [] from rfl, List.append_nil] at h
                        exact h
                      generalize cS 16 = S0 at *
                      have em1 : moreB ([].map gN) = [] := rfl
                      have em2 : moreB (([].map (15 - ·)).map gN) = [] := rfl
                      rw [em1, em2] at hp
                      rw [em1, em2]
                      clear em1 em2
                      obtain ⟨M1, hM1⟩ : ∃ x : B, ([] : B) = x := ⟨_, rfl⟩
                      clear hM1 M1
                      unfold pLook pRule pMid at hp
                      have hapQ1 : (ByteArray.mk S0.toArray) ++ ⟨#[108, 111, 111, 107, 117, 112, 32]⟩ = ⟨(S0 ++ [108, 111, 111, 107, 117, 112, 32]).toArray⟩ := app_list S0 [108, 111, 111, 107, 117, 112, 32]
                      have hlQ1 : (S0 ++ [108, 111, 111, 107, 117, 112, 32]).length ≤ 400 := by rw [List.length_append]; simp only [List.length_cons, List.length_nil]; omega
                      generalize hQ1 : S0 ++ [108, 111, 111, 107, 117, 112, 32] = Q1 at *
                      have hapQ2 : (ByteArray.mk Q1.toArray) ++ ⟨#[114, 101, 118, 101, 114, 115, 101]⟩ = ⟨(Q1 ++ [114, 101, 118, 101, 114, 115, 101]).toArray⟩ := app_list Q1 [114, 101, 118, 101, 114, 115, 101]
                      have hlQ2 : (Q1 ++ [114, 101, 118, 101, 114, 115, 101]).length ≤ 420 := by rw [List.length_append]; simp only [List.length_cons, List.length_nil]; omega
                      generalize hQ2 : Q1 ++ [114, 101, 118, 101, 114, 115, 101] = Q2 at *
                      have hapQ3 : (ByteArray.mk Q2.toArray) ++ ⟨#[10, 114, 117, 108, 101, 32, 47, 32, 91]⟩ = ⟨(Q2 ++ [10, 114, 117, 108, 101, 32, 47, 32, 91]).toArray⟩ := app_list Q2 [10, 114, 117, 108, 101, 32, 47, 32, 91]
                      have hlQ3 : (Q2 ++ [10, 114, 117, 108, 101, 32, 47, 32, 91]).length ≤ 440 := by rw [List.length_append]; simp only [List.length_cons, List.length_nil]; omega
                      generalize hQ3 : Q2 ++ [10, 114, 117, 108, 101, 32, 47, 32, 91] = Q3 at *
                      have hapQ4 : (ByteArray.mk Q3.toArray) ++ ⟨#[]⟩ = ⟨(Q3 ++ []).toArray⟩ := app_list Q3 []
                      have hlQ4 : (Q3 ++ []).length ≤ 600 := by rw [List.length_append]; simp only [List.length_cons, List.length_nil]; omega
                      generalize hQ4 : Q3 ++ [] = Q4 at *
                      have hapQ5 : (ByteArray.mk Q4.toArray) ++ ⟨#[32, 93, 32, 47, 32, 62]⟩ = ⟨(Q4 ++ [32, 93, 32, 47, 32, 62]).toArray⟩ := app_list Q4 [32, 93, 32, 47, 32, 62]
                      have hlQ5 : (Q4 ++ [32, 93, 32, 47, 32, 62]).length ≤ 640 := by rw [List.length_append]; simp only [List.length_cons, List.length_nil]; omega
                      generalize hQ5 : Q4 ++ [32, 93, 32, 47, 32, 62] = Q5 at *
                      have hapQ6 : (ByteArray.mk Q5.toArray) ++ ⟨#[]⟩ = ⟨(Q5 ++ []).toArray⟩ := app_list Q5 []
                      have hlQ6 : (Q5 ++ []).length ≤ 800 := by rw [List.length_append]; simp only [List.length_cons, List.length_nil]; omega
                      generalize hQ6 : Q5 ++ [] = Q6 at *
                      have HP := Lib.hid hp
                      clear hp hQ1 hQ2 hQ3 hQ4 hQ5 hQ6
                      have hf := parseFont_ok w3 Q6 (by omega) (HTB.out.below HBw.out) (Nat.le_trans hnT HBx.out.size)
                      rw [HP.out] at hf
                      have HF := Lib.hid hf
                      clear hf HP
                      go_wp2_with fail
                      refine HF.out.mono ?_
                      rintro e w6 ⟨hb6, fc, rfl, hfn⟩
                      obtain ⟨A1, d1, A2, d2, b3, o3, d3, A4, d4, A5, d5, A6, d6, A7, d7, A8, d8, b4, o4, d14, A15, d15, b6, o6, d16, A17, d17, A18, d18, A19, d19, B1, e1, rfl, ⟨zb3, zb4, zb6⟩, g2, p0, p1, p2, p3, p4, p5, u3, v1, v2⟩ := pair_fnt hfn
                      have HB6 : Hid (Below w.heap.size w w6) := Lib.hid (HBx.out.trans (hb6.mono HBx.out.size))
                      have hz6 := HB6.out.size
                      have HO6 := Lib.hid (own_below HO3.out hb6)
                      have hsl1 := Nat.le_trans (setOf_len []) hnl
                      have HOF := Lib.hid (fun W h => of_ok W A [].length ca [] h (by omega))
                      have HRM : Hid (∀ x ∈ setOf [], In 8 x) := Lib.hid (fun x hx => hns.out.2 x ((setOf_mem x _).1 hx))
                      clear hb6 hfn HF
                      generalize setOf [] = R1 at *
                      rw [List.length_map] at p3 v2
                      have HV1 := Lib.hid v1
                      have HV2 := Lib.hid v2
                      clear v1 v2
                      go_wp2_with fail
                      generalize hW7 : (World.alloc (World.alloc w6 _) _) = W7
                      have hk7 : Bk W7 (w6.heap.size + 1) 76 #[.slice A15 0 d15, .slice (some ⟨b6, o6, none⟩) 1 d16, .slice A17 0 d17, .slice A18 R1.length d18, .slice A19 0 d19, .int .i64 0] := by
                        rw [← hW7]
                        have h := Bk.new (w6.alloc (.cells #[.int .i64 0, .slice A1 (gGs 16).length d1, .slice A2 0 d2, .slice (some ⟨b3, o3, none⟩) 1 d3, .slice A4 0 d4, .slice A5 0 d5, .slice A6 0 d6, .slice A7 0 d7, .slice A8 0 d8] tFnt)) 76 #[.slice A15 0 d15, .slice (some ⟨b6, o6, none⟩) 1 d16, .slice A17 0 d17, .slice A18 R1.length d18, .slice A19 0 d19, .int .i64 0]
                        simpa using h
                      have hb7 : Below w6.heap.size w6 W7 := by rw [← hW7]; exact ((Below.refl _ _).alloc (Nat.le_refl _) _).alloc (by simp) _
                      have HK7 := Lib.hid hk7
                      have HB7 := Lib.hid hb7
                      have z7 : w6.heap.size + 1 < W7.heap.size := hk7.lt
                      clear hW7 hk7 hb7 g2 p0 p1 p2 p3 p4 p5
                      refine (HOF.out W7 (own_rdI (own_below HO6.out HB7.out))).mono ?_
                      rintro e w8 ⟨⟨A9, c9, rfl, hr8⟩, hb8⟩
                      have HB8 : Hid (Below w6.heap.size w6 w8) := Lib.hid (HB7.out.trans (hb8.mono HB7.out.size))
                      have k1 : w8.cell? ⟨w6.heap.size + 1, 1, none⟩ = some (.slice (some ⟨b6, o6, none⟩) 1 d16) := ((bcell hb8).1 _ _ z7).trans (HK7.out.cell 1)
                      have u8 : w8.cell? ⟨b6, o6, none⟩ = some (.slice B1 R1.length e1) := ((bcell HB8.out).1 _ _ zb6).trans u3
                      have HSM := Lib.hid (same06_self w8 B1 A9 R1.length R1.length e1 c9 R1 ((HV1.out.below HB8.out (Nat.le_refl _)).mono HB8.out.size) hr8 (by omega))
                      have HR8 := Lib.hid hr8
                      have Hb8 := Lib.hid hb8
                      clear hr8 hb8 u3 HOF
                      go_wp2_with fail
                      refine HSM.out.mono ?_
                      rintro e w9 ⟨rfl, hb9⟩
                      have HB9 : Hid (Below w6.heap.size w6 w9) := Lib.hid (HB8.out.trans (hb9.mono HB8.out.size))
                      have HK9 : Hid (Bk w9 (w6.heap.size + 1) 76 #[.slice A15 0 d15, .slice (some ⟨b6, o6, none⟩) 1 d16, .slice A17 0 d17, .slice A18 R1.length d18, .slice A19 0 d19, .int .i64 0]) := Lib.hid ((hb9.block _ (Nat.lt_of_lt_of_le z7 Hb8.out.size)).trans ((Hb8.out.block _ z7).trans HK7.out))
                      have HR9 : Hid (Rd w9 w9.heap.size A9 R1.length 1 (cIs R1)) := Lib.hid ((HR8.out.below hb9 (Nat.le_refl _)).mono hb9.size)
                      have HV9 : Hid (Rd w9 w9.heap.size A18 R1.length 1 (cIs (R1.map (15 - ·)))) := Lib.hid ((HV2.out.below HB9.out (Nat.le_refl _)).mono HB9.out.size)
                      have k3 : w9.cell? ⟨w6.heap.size + 1, 3, none⟩ = some (.slice A18 R1.length d18) := HK9.out.cell 3
                      have z9 := HK9.out.lt
                      have HBF : Hid (Below w.heap.size w w9) := Lib.hid (HB6.out.trans (HB9.out.mono hz6))
                      clear hb9 HSM k1 u8
                      go_wp2_with fail
                      go_loopw [23] (fun i wr => ∃ k : Nat, k ≤ R1.length ∧ i = .int .i64 k ∧ Below w9.heap.size w9 wr) (fun i _ => R1.length - (intOf i).toNat)
                      case atStart => exact ⟨0, Nat.zero_le _, rfl, Below.refl _ _⟩
                      case round =>
                        obtain ⟨wy, rfl⟩ : ∃ x, x = wr := ⟨_, rfl⟩
                        obtain ⟨k9, hk9, rfl, hb10⟩ := hrel
                        have k3' : wy.cell? ⟨w6.heap.size + 1, 3, none⟩ = some (.slice A18 R1.length d18) := ((bcell hb10).1 _ _ z9).trans k3
                        have HBy9 := Lib.hid hb10
                        by_cases hlt9 : k9 < R1.length
                        · obtain ⟨b11, o11, x, rfl, hx, q11⟩ := ints_at HR9.out hb10 hlt9
                          obtain ⟨b12, o12, y, rfl, hy, q12⟩ := ints_at HV9.out hb10 hlt9
                          have exy : y = 15 - x := by
                            have h := hy.out
                            rw [List.getElem?_map, hx.out] at h
                            simpa using h.symm
                          subst exy
                          obtain ⟨hx81, hx82⟩ := HRM.out x (List.mem_of_getElem? hx.out)
                          clear hx hy hb10
                          go_wp2_with fail
                          go_quiet (fail)
                          go_wp2_with fail
                          go_roundw
                          case rel => exact ⟨k9 + 1, by omega, by simp, below_drewN HBy9.out _⟩
                          case measure => simp [intOf]; omega
                        · go_wp2_with fail
                          go_ret
                          exact ⟨rfl, HBF.out.trans (HBy9.out.mono HBF.out.size)⟩
                    · obtain ⟨a, r0, hns0⟩ : ∃ a r0, ns = a :: r0 := List.exists_cons_of_ne_nil hne
                      have ha : a ∈ ns := by rw [hns0]; simp
                      have hnp : 0 < ns.length := by rw [hns0]; simp
                      have hp : parseL (cS 16 ++ pLook ++ [114, 101, 118, 101, 114, 115, 101] ++ pRule ++ (moreB (ns.map gN) ++ [32, 103] ++ itB a) ++ pMid ++ (moreB ((ns.map (15 - ·)).map gN) ++ [32, 103, 48])) = .error (18, 24) := by
                        have h := pair_twice true ns hns.out.2 hnl a ha
                        rw [psrc_eq, show moreB ([] : List B) = [] from rfl, List.append_nil, more_sn, more_sn] at h
                        have e1 : gN 0 = [103, 48] := by decide +kernel
                        rw [e1] at h
                        simpa [gN, pLook, pRule, pMid, kName] using h
                      obtain ⟨b6, o6, a2, rfl, ha2, q6⟩ := ints_at (own_rdI HO.out) HB3.out hnp
                      simp only [Nat.add_zero] at q6
                      have ea : a2 = a := by have := ha2.out; rw [hns0] at this; simpa using this.symm
                      subst ea
                      obtain ⟨a81, a82⟩ := hns.out.2 a2 ha
                      have HDA := Lib.hid (fun w' => decimal_ok w' a2 ⟨by omega, by omega⟩)
                      have hila := it_len a2 ⟨by omega, by omega⟩
                      have hnl0 : ns.length ≤ 8 := hnl
                      clear hns0 hne ha ha2
                      generalize cS 16 = S0 at *
                      generalize moreB (ns.map gN) = M1 at *
                      generalize moreB ((ns.map (15 - ·)).map gN) = M2 at *
                      generalize itB a2 = D1 at *
                      have hapL1 : (ByteArray.mk M1.toArray) ++ ⟨#[32, 103]⟩ = ⟨(M1 ++ [32, 103]).toArray⟩ := app_list M1 [32, 103]
                      have hlL1 : (M1 ++ [32, 103]).length ≤ 100 := by rw [List.length_append]; simp only [List.length_cons, List.length_nil]; omega
                      generalize hL1 : M1 ++ [32, 103] = L1 at *
                      have hapL2 : (ByteArray.mk L1.toArray) ++ ⟨D1.toArray⟩ = ⟨(L1 ++ D1).toArray⟩ := app_list L1 D1
                      have hlL2 : (L1 ++ D1).length ≤ 120 := by rw [List.length_append]; omega
                      generalize hL2 : L1 ++ D1 = L2 at *
                      have hapR1 : (ByteArray.mk M2.toArray) ++ ⟨#[32, 103, 48]⟩ = ⟨(M2 ++ [32, 103, 48]).toArray⟩ := app_list M2 [32, 103, 48]
                      have hlR1 : (M2 ++ [32, 103, 48]).length ≤ 100 := by rw [List.length_append]; simp only [List.length_cons, List.length_nil]; omega
                      generalize hR1 : M2 ++ [32, 103, 48] = R1 at *
                      unfold pLook pRule pMid at hp
                      have hapQ1 : (ByteArray.mk S0.toArray) ++ ⟨#[108, 111, 111, 107, 117, 112, 32]⟩ = ⟨(S0 ++ [108, 111, 111, 107, 117, 112, 32]).toArray⟩ := app_list S0 [108, 111, 111, 107, 117, 112, 32]
                      have hlQ1 : (S0 ++ [108, 111, 111, 107, 117, 112, 32]).length ≤ 400 := by rw [List.length_append]; simp only [List.length_cons, List.length_nil]; omega
                      generalize hQ1 : S0 ++ [108, 111, 111, 107, 117, 112, 32] = Q1 at *
                      have hapQ2 : (ByteArray.mk Q1.toArray) ++ ⟨#[114, 101, 118, 101, 114, 115, 101]⟩ = ⟨(Q1 ++ [114, 101, 118, 101, 114, 115, 101]).toArray⟩ := app_list Q1 [114, 101, 118, 101, 114, 115, 101]
                      have hlQ2 : (Q1 ++ [114, 101, 118, 101, 114, 115, 101]).length ≤ 420 := by rw [List.length_append]; simp only [List.length_cons, List.length_nil]; omega
                      generalize hQ2 : Q1 ++ [114, 101, 118, 101, 114, 115, 101] = Q2 at *
                      have hapQ3 : (ByteArray.mk Q2.toArray) ++ ⟨#[10, 114, 117, 108, 101, 32, 47, 32, 91]⟩ = ⟨(Q2 ++ [10, 114, 117, 108, 101, 32, 47, 32, 91]).toArray⟩ := app_list Q2 [10, 114, 117, 108, 101, 32, 47, 32, 91]
                      have hlQ3 : (Q2 ++ [10, 114, 117, 108, 101, 32, 47, 32, 91]).length ≤ 440 := by rw [List.length_append]; simp only [List.length_cons, List.length_nil]; omega
                      generalize hQ3 : Q2 ++ [10, 114, 117, 108, 101, 32, 47, 32, 91] = Q3 at *
                      have hapQ4 : (ByteArray.mk Q3.toArray) ++ ⟨L2.toArray⟩ = ⟨(Q3 ++ L2).toArray⟩ := app_list Q3 L2
                      have hlQ4 : (Q3 ++ L2).length ≤ 600 := by rw [List.length_append]; omega
                      generalize hQ4 : Q3 ++ L2 = Q4 at *
                      have hapQ5 : (ByteArray.mk Q4.toArray) ++ ⟨#[32, 93, 32, 47, 32, 62]⟩ = ⟨(Q4 ++ [32, 93, 32, 47, 32, 62]).toArray⟩ := app_list Q4 [32, 93, 32, 47, 32, 62]
                      have hlQ5 : (Q4 ++ [32, 93, 32, 47, 32, 62]).length ≤ 640 := by rw [List.length_append]; simp only [List.length_cons, List.length_nil]; omega
                      generalize hQ5 : Q4 ++ [32, 93, 32, 47, 32, 62] = Q5 at *
                      have hapQ6 : (ByteArray.mk Q5.toArray) ++ ⟨R1.toArray⟩ = ⟨(Q5 ++ R1).toArray⟩ := app_list Q5 R1
                      have hlQ6 : (Q5 ++ R1).length ≤ 800 := by rw [List.length_append]; omega
                      generalize hQ6 : Q5 ++ R1 = Q6 at *
                      have HP := Lib.hid hp
                      clear hp hQ1 hQ2 hQ3 hQ4 hQ5 hQ6 hL1 hL2 hR1
                      have zb6 : b6 < w3.heap.size := World.block_lt_of_cell? w3 _ q6
                      go_wp2_with fail
                      refine (HDA.out _).mono ?_
                      rintro e w4 ⟨rfl, hb4⟩
                      have HBy : Hid (Below w1.heap.size w1 w4) := Lib.hid (HBw.out.trans (hb4.mono HBw.out.size))
                      have HBz : Hid (Below w.heap.size w w4) := Lib.hid (HB1.out.trans (HBy.out.mono hz1))
                      clear hb4 HDA
                      have hf := parseFont_ok w4 Q6 (by omega) (HTB.out.below HBy.out) (Nat.le_trans hnT HBz.out.size)
                      rw [HP.out] at hf
                      have HF := Lib.hid hf
                      clear hf HP
                      go_wp2_with fail
                      refine HF.out.mono ?_
                      rintro e w6 ⟨hb6, rfl⟩
                      have HB6 : Hid (Below w.heap.size w w6) := Lib.hid (HBz.out.trans (hb6.mono HBz.out.size))
                      have hz6 := HB6.out.size
                      clear hb6 HF
                      go_wp2_with fail
                      go_ret
                      exact ⟨rfl, HB6.out.alloc hz6 _⟩
                  · have hp : parseL (cS 16 ++ pLook ++ [114, 101, 118, 101, 114, 115, 101] ++ pRule ++ moreB (ns.map gN) ++ pMid ++ (moreB ((ns.map (15 - ·)).map gN) ++ [32, 103, 49])) = .error (18, 22) := by
                      have h := pair_more true ns hns.out.2 hns.out.1 hnl
                      rw [psrc_eq, show moreB ([] : List B) = [] from rfl, List.append_nil, more_sn] at h
                      have e1 : gN 1 = [103, 49] := by decide +kernel
                      rw [e1] at h
                      exact h
                    generalize cS 16 = S0 at *
                    generalize moreB (ns.map gN) = M1 at *
                    generalize moreB ((ns.map (15 - ·)).map gN) = M2 at *
                    have hapR1 : (ByteArray.mk M2.toArray) ++ ⟨#[32, 103, 49]⟩ = ⟨(M2 ++ [32, 103, 49]).toArray⟩ := app_list M2 [32, 103, 49]
                    have hlR1 : (M2 ++ [32, 103, 49]).length ≤ 100 := by rw [List.length_append]; simp only [List.length_cons, List.length_nil]; omega
                    generalize hR1 : M2 ++ [32, 103, 49] = R1 at *
                    unfold pLook pRule pMid at hp
                    have hapQ1 : (ByteArray.mk S0.toArray) ++ ⟨#[108, 111, 111, 107, 117, 112, 32]⟩ = ⟨(S0 ++ [108, 111, 111, 107, 117, 112, 32]).toArray⟩ := app_list S0 [108, 111, 111, 107, 117, 112, 32]
                    have hlQ1 : (S0 ++ [108, 111, 111, 107, 117, 112, 32]).length ≤ 400 := by rw [List.length_append]; simp only [List.length_cons, List.length_nil]; omega
                    generalize hQ1 : S0 ++ [108, 111, 111, 107, 117, 112, 32] = Q1 at *
                    have hapQ2 : (ByteArray.mk Q1.toArray) ++ ⟨#[114, 101, 118, 101, 114, 115, 101]⟩ = ⟨(Q1 ++ [114, 101, 118, 101, 114, 115, 101]).toArray⟩ := app_list Q1 [114, 101, 118, 101, 114, 115, 101]
                    have hlQ2 : (Q1 ++ [114, 101, 118, 101, 114, 115, 101]).length ≤ 420 := by rw [List.length_append]; simp only [List.length_cons, List.length_nil]; omega
                    generalize hQ2 : Q1 ++ [114, 101, 118, 101, 114, 115, 101] = Q2 at *
                    have hapQ3 : (ByteArray.mk Q2.toArray) ++ ⟨#[10, 114, 117, 108, 101, 32, 47, 32, 91]⟩ = ⟨(Q2 ++ [10, 114, 117, 108, 101, 32, 47, 32, 91]).toArray⟩ := app_list Q2 [10, 114, 117, 108, 101, 32, 47, 32, 91]
                    have hlQ3 : (Q2 ++ [10, 114, 117, 108, 101, 32, 47, 32, 91]).length ≤ 440 := by rw [List.length_append]; simp only [List.length_cons, List.length_nil]; omega
                    generalize hQ3 : Q2 ++ [10, 114, 117, 108, 101, 32, 47, 32, 91] = Q3 at *
                    have hapQ4 : (ByteArray.mk Q3.toArray) ++ ⟨M1.toArray⟩ = ⟨(Q3 ++ M1).toArray⟩ := app_list Q3 M1
                    have hlQ4 : (Q3 ++ M1).length ≤ 600 := by rw [List.length_append]; omega
                    generalize hQ4 : Q3 ++ M1 = Q4 at *
                    have hapQ5 : (ByteArray.mk Q4.toArray) ++ ⟨#[32, 93, 32, 47, 32, 62]⟩ = ⟨(Q4 ++ [32, 93, 32, 47, 32, 62]).toArray⟩ := app_list Q4 [32, 93, 32, 47, 32, 62]
                    have hlQ5 : (Q4 ++ [32, 93, 32, 47, 32, 62]).length ≤ 640 := by rw [List.length_append]; simp only [List.length_cons, List.length_nil]; omega
                    generalize hQ5 : Q4 ++ [32, 93, 32, 47, 32, 62] = Q5 at *
                    have hapQ6 : (ByteArray.mk Q5.toArray) ++ ⟨R1.toArray⟩ = ⟨(Q5 ++ R1).toArray⟩ := app_list Q5 R1
                    have hlQ6 : (Q5 ++ R1).length ≤ 800 := by rw [List.length_append]; omega
                    generalize hQ6 : Q5 ++ R1 = Q6 at *
                    have HP := Lib.hid hp
                    clear hp hQ1 hQ2 hQ3 hQ4 hQ5 hQ6 hR1
                    have hf := parseFont_ok w3 Q6 (by omega) (HTB.out.below HBw.out) (Nat.le_trans hnT HBx.out.size)
                    rw [HP.out] at hf
                    have HF := Lib.hid hf
                    clear hf HP
                    go_wp2_with fail
                    refine HF.out.mono ?_
                    rintro e w6 ⟨hb6, rfl⟩
                    have HB6 : Hid (Below w.heap.size w w6) := Lib.hid (HBx.out.trans (hb6.mono HBx.out.size))
                    have hz6 := HB6.out.size
                    clear hb6 HF
                    go_wp2_with fail
                    go_ret
                    exact ⟨rfl, HB6.out.alloc hz6 _⟩
                  · have hp : parseL (cS 16 ++ pLook ++ [114, 101, 118, 101, 114, 115, 101] ++ pRule ++ moreB (ns.map gN) ++ pMid ++ (moreB ((ns.map (15 - ·)).map gN) ++ [32, 103, 49, 54])) = .error (18, 23) := by
                      have h := pair_name true ns hns.out.2 hnl
                      have e1 : moreB [gN 16] = [32, 103, 49, 54] := by decide +kernel
                      rw [psrc_eq, e1] at h
                      exact h
                    generalize cS 16 = S0 at *
                    generalize moreB (ns.map gN) = M1 at *
                    generalize moreB ((ns.map (15 - ·)).map gN) = M2 at *
                    have hapR1 : (ByteArray.mk M2.toArray) ++ ⟨#[32, 103, 49, 54]⟩ = ⟨(M2 ++ [32, 103, 49, 54]).toArray⟩ := app_list M2 [32, 103, 49, 54]
                    have hlR1 : (M2 ++ [32, 103, 49, 54]).length ≤ 100 := by rw [List.length_append]; simp only [List.length_cons, List.length_nil]; omega
                    generalize hR1 : M2 ++ [32, 103, 49, 54] = R1 at *
                    unfold pLook pRule pMid at hp
                    have hapQ1 : (ByteArray.mk S0.toArray) ++ ⟨#[108, 111, 111, 107, 117, 112, 32]⟩ = ⟨(S0 ++ [108, 111, 111, 107, 117, 112, 32]).toArray⟩ := app_list S0 [108, 111, 111, 107, 117, 112, 32]
                    have hlQ1 : (S0 ++ [108, 111, 111, 107, 117, 112, 32]).length ≤ 400 := by rw [List.length_append]; simp only [List.length_cons, List.length_nil]; omega
                    generalize hQ1 : S0 ++ [108, 111, 111, 107, 117, 112, 32] = Q1 at *
                    have hapQ2 : (ByteArray.mk Q1.toArray) ++ ⟨#[114, 101, 118, 101, 114, 115, 101]⟩ = ⟨(Q1 ++ [114, 101, 118, 101, 114, 115, 101]).toArray⟩ := app_list Q1 [114, 101, 118, 101, 114, 115, 101]
                    have hlQ2 : (Q1 ++ [114, 101, 118, 101, 114, 115, 101]).length ≤ 420 := by rw [List.length_append]; simp only [List.length_cons, List.length_nil]; omega
                    generalize hQ2 : Q1 ++ [114, 101, 118, 101, 114, 115, 101] = Q2 at *
                    have hapQ3 : (ByteArray.mk Q2.toArray) ++ ⟨#[10, 114, 117, 108, 101, 32, 47, 32, 91]⟩ = ⟨(Q2 ++ [10, 114, 117, 108, 101, 32, 47, 32, 91]).toArray⟩ := app_list Q2 [10, 114, 117, 108, 101, 32, 47, 32, 91]
                    have hlQ3 : (Q2 ++ [10, 114, 117, 108, 101, 32, 47, 32, 91]).length ≤ 440 := by rw [List.length_append]; simp only [List.length_cons, List.length_nil]; omega
                    generalize hQ3 : Q2 ++ [10, 114, 117, 108, 101, 32, 47, 32, 91] = Q3 at *
                    have hapQ4 : (ByteArray.mk Q3.toArray) ++ ⟨M1.toArray⟩ = ⟨(Q3 ++ M1).toArray⟩ := app_list Q3 M1
                    have hlQ4 : (Q3 ++ M1).length ≤ 600 := by rw [List.length_append]; omega
                    generalize hQ4 : Q3 ++ M1 = Q4 at *
                    have hapQ5 : (ByteArray.mk Q4.toArray) ++ ⟨#[32, 93, 32, 47, 32, 62]⟩ = ⟨(Q4 ++ [32, 93, 32, 47, 32, 62]).toArray⟩ := app_list Q4 [32, 93, 32, 47, 32, 62]
                    have hlQ5 : (Q4 ++ [32, 93, 32, 47, 32, 62]).length ≤ 640 := by rw [List.length_append]; simp only [List.length_cons, List.length_nil]; omega
                    generalize hQ5 : Q4 ++ [32, 93, 32, 47, 32, 62] = Q5 at *
                    have hapQ6 : (ByteArray.mk Q5.toArray) ++ ⟨R1.toArray⟩ = ⟨(Q5 ++ R1).toArray⟩ := app_list Q5 R1
                    have hlQ6 : (Q5 ++ R1).length ≤ 800 := by rw [List.length_append]; omega
                    generalize hQ6 : Q5 ++ R1 = Q6 at *
                    have HP := Lib.hid hp
                    clear hp hQ1 hQ2 hQ3 hQ4 hQ5 hQ6 hR1
                    have hf := parseFont_ok w3 Q6 (by omega) (HTB.out.below HBw.out) (Nat.le_trans hnT HBx.out.size)
                    rw [HP.out] at hf
                    have HF := Lib.hid hf
                    clear hf HP
                    go_wp2_with fail
                    refine HF.out.mono ?_
                    rintro e w6 ⟨hb6, rfl⟩
                    have HB6 : Hid (Below w.heap.size w w6) := Lib.hid (HBx.out.trans (hb6.mono HBx.out.size))
                    have hz6 := HB6.out.size
                    clear hb6 HF
                    go_wp2_with fail
                    go_ret
                    exact ⟨rfl, HB6.out.alloc hz6 _⟩
                | false =>
                  rcases hqq with rfl | rfl | rfl | rfl
                  · have hp : parseL (cS 16 ++ pLook ++ [115, 105, 110, 103, 108, 101] ++ pRule ++ moreB (ns.map gN) ++ pMid ++ moreB ((ns.map (15 - ·)).map gN)) = .ok (pairF false ns) := by
                      have h := pair_right false ns hns.out.2 hns.out.1 hnl
                      rw [psrc_eq, show moreB ([] : List B) = [] from rfl, List.append_nil] at h
                      exact h
                    generalize cS 16 = S0 at *
                    generalize moreB (ns.map gN) = M1 at *
                    generalize moreB ((ns.map (15 - ·)).map gN) = M2 at *
                    unfold pLook pRule pMid at hp
                    have hapQ1 : (ByteArray.mk S0.toArray) ++ ⟨#[108, 111, 111, 107, 117, 112, 32]⟩ = ⟨(S0 ++ [108, 111, 111, 107, 117, 112, 32]).toArray⟩ := app_list S0 [108, 111, 111, 107, 117, 112, 32]
                    have hlQ1 : (S0 ++ [108, 111, 111, 107, 117, 112, 32]).length ≤ 400 := by rw [List.length_append]; simp only [List.length_cons, List.length_nil]; omega
                    generalize hQ1 : S0 ++ [108, 111, 111, 107, 117, 112, 32] = Q1 at *
                    have hapQ2 : (ByteArray.mk Q1.toArray) ++ ⟨#[115, 105, 110, 103, 108, 101]⟩ = ⟨(Q1 ++ [115, 105, 110, 103, 108, 101]).toArray⟩ := app_list Q1 [115, 105, 110, 103, 108, 101]
                    have hlQ2 : (Q1 ++ [115, 105, 110, 103, 108, 101]).length ≤ 420 := by rw [List.length_append]; simp only [List.length_cons, List.length_nil]; omega
                    generalize hQ2 : Q1 ++ [115, 105, 110, 103, 108, 101] = Q2 at *
                    have hapQ3 : (ByteArray.mk Q2.toArray) ++ ⟨#[10, 114, 117, 108, 101, 32, 47, 32, 91]⟩ = ⟨(Q2 ++ [10, 114, 117, 108, 101, 32, 47, 32, 91]).toArray⟩ := app_list Q2 [10, 114, 117, 108, 101, 32, 47, 32, 91]
                    have hlQ3 : (Q2 ++ [10, 114, 117, 108, 101, 32, 47, 32, 91]).length ≤ 440 := by rw [List.length_append]; simp only [List.length_cons, List.length_nil]; omega
                    generalize hQ3 : Q2 ++ [10, 114, 117, 108, 101, 32, 47, 32, 91] = Q3 at *
                    have hapQ4 : (ByteArray.mk Q3.toArray) ++ ⟨M1.toArray⟩ = ⟨(Q3 ++ M1).toArray⟩ := app_list Q3 M1
                    have hlQ4 : (Q3 ++ M1).length ≤ 600 := by rw [List.length_append]; omega
                    generalize hQ4 : Q3 ++ M1 = Q4 at *
                    have hapQ5 : (ByteArray.mk Q4.toArray) ++ ⟨#[32, 93, 32, 47, 32, 62]⟩ = ⟨(Q4 ++ [32, 93, 32, 47, 32, 62]).toArray⟩ := app_list Q4 [32, 93, 32, 47, 32, 62]
                    have hlQ5 : (Q4 ++ [32, 93, 32, 47, 32, 62]).length ≤ 640 := by rw [List.length_append]; simp only [List.length_cons, List.length_nil]; omega
                    generalize hQ5 : Q4 ++ [32, 93, 32, 47, 32, 62] = Q5 at *
                    have hapQ6 : (ByteArray.mk Q5.toArray) ++ ⟨M2.toArray⟩ = ⟨(Q5 ++ M2).toArray⟩ := app_list Q5 M2
                    have hlQ6 : (Q5 ++ M2).length ≤ 800 := by rw [List.length_append]; omega
                    generalize hQ6 : Q5 ++ M2 = Q6 at *
                    have HP := Lib.hid hp
                    clear hp hQ1 hQ2 hQ3 hQ4 hQ5 hQ6
                    have hf := parseFont_ok w3 Q6 (by omega) (HTB.out.below HBw.out) (Nat.le_trans hnT HBx.out.size)
                    rw [HP.out] at hf
                    have HF := Lib.hid hf
                    clear hf HP
                    go_wp2_with fail
                    refine HF.out.mono ?_
                    rintro e w6 ⟨hb6, fc, rfl, hfn⟩
                    obtain ⟨A1, d1, A2, d2, b3, o3, d3, A4, d4, A5, d5, A6, d6, A7, d7, A8, d8, b4, o4, d14, A15, d15, b6, o6, d16, A17, d17, A18, d18, A19, d19, B1, e1, rfl, ⟨zb3, zb4, zb6⟩, g2, p0, p1, p2, p3, p4, p5, u3, v1, v2⟩ := pair_fnt hfn
                    have HB6 : Hid (Below w.heap.size w w6) := Lib.hid (HBx.out.trans (hb6.mono HBx.out.size))
                    have hz6 := HB6.out.size
                    have HO6 := Lib.hid (own_below HO3.out hb6)
                    have hsl1 := Nat.le_trans (setOf_len ns) hnl
                    have HOF := Lib.hid (fun W h => of_ok W A ns.length ca ns h (by omega))
                    have HRM : Hid (∀ x ∈ setOf ns, In 8 x) := Lib.hid (fun x hx => hns.out.2 x ((setOf_mem x _).1 hx))
                    clear hb6 hfn HF
                    generalize setOf ns = R1 at *
                    rw [List.length_map] at p3 v2
                    have HV1 := Lib.hid v1
                    have HV2 := Lib.hid v2
                    clear v1 v2
                    go_wp2_with fail
                    generalize hW7 : (World.alloc (World.alloc w6 _) _) = W7
                    have hk7 : Bk W7 (w6.heap.size + 1) 76 #[.slice A15 0 d15, .slice (some ⟨b6, o6, none⟩) 1 d16, .slice A17 0 d17, .slice A18 R1.length d18, .slice A19 0 d19, .int .i64 0] := by
                      rw [← hW7]
                      have h := Bk.new (w6.alloc (.cells #[.int .i64 0, .slice A1 (gGs 16).length d1, .slice A2 0 d2, .slice (some ⟨b3, o3, none⟩) 1 d3, .slice A4 0 d4, .slice A5 0 d5, .slice A6 0 d6, .slice A7 0 d7, .slice A8 0 d8] tFnt)) 76 #[.slice A15 0 d15, .slice (some ⟨b6, o6, none⟩) 1 d16, .slice A17 0 d17, .slice A18 R1.length d18, .slice A19 0 d19, .int .i64 0]
                      simpa using h
                    have hb7 : Below w6.heap.size w6 W7 := by rw [← hW7]; exact ((Below.refl _ _).alloc (Nat.le_refl _) _).alloc (by simp) _
                    have HK7 := Lib.hid hk7
                    have HB7 := Lib.hid hb7
                    have z7 : w6.heap.size + 1 < W7.heap.size := hk7.lt
                    clear hW7 hk7 hb7 g2 p0 p1 p2 p3 p4 p5
                    refine (HOF.out W7 (own_rdI (own_below HO6.out HB7.out))).mono ?_
                    rintro e w8 ⟨⟨A9, c9, rfl, hr8⟩, hb8⟩
                    have HB8 : Hid (Below w6.heap.size w6 w8) := Lib.hid (HB7.out.trans (hb8.mono HB7.out.size))
                    have k1 : w8.cell? ⟨w6.heap.size + 1, 1, none⟩ = some (.slice (some ⟨b6, o6, none⟩) 1 d16) := ((bcell hb8).1 _ _ z7).trans (HK7.out.cell 1)
                    have u8 : w8.cell? ⟨b6, o6, none⟩ = some (.slice B1 R1.length e1) := ((bcell HB8.out).1 _ _ zb6).trans u3
                    have HSM := Lib.hid (same06_self w8 B1 A9 R1.length R1.length e1 c9 R1 ((HV1.out.below HB8.out (Nat.le_refl _)).mono HB8.out.size) hr8 (by omega))
                    have HR8 := Lib.hid hr8
                    have Hb8 := Lib.hid hb8
                    clear hr8 hb8 u3 HOF
                    go_wp2_with fail
                    refine HSM.out.mono ?_
                    rintro e w9 ⟨rfl, hb9⟩
                    have HB9 : Hid (Below w6.heap.size w6 w9) := Lib.hid (HB8.out.trans (hb9.mono HB8.out.size))
                    have HK9 : Hid (Bk w9 (w6.heap.size + 1) 76 #[.slice A15 0 d15, .slice (some ⟨b6, o6, none⟩) 1 d16, .slice A17 0 d17, .slice A18 R1.length d18, .slice A19 0 d19, .int .i64 0]) := Lib.hid ((hb9.block _ (Nat.lt_of_lt_of_le z7 Hb8.out.size)).trans ((Hb8.out.block _ z7).trans HK7.out))
                    have HR9 : Hid (Rd w9 w9.heap.size A9 R1.length 1 (cIs R1)) := Lib.hid ((HR8.out.below hb9 (Nat.le_refl _)).mono hb9.size)
                    have HV9 : Hid (Rd w9 w9.heap.size A18 R1.length 1 (cIs (R1.map (15 - ·)))) := Lib.hid ((HV2.out.below HB9.out (Nat.le_refl _)).mono HB9.out.size)
                    have k3 : w9.cell? ⟨w6.heap.size + 1, 3, none⟩ = some (.slice A18 R1.length d18) := HK9.out.cell 3
                    have z9 := HK9.out.lt
                    have HBF : Hid (Below w.heap.size w w9) := Lib.hid (HB6.out.trans (HB9.out.mono hz6))
                    clear hb9 HSM k1 u8
                    go_wp2_with fail
                    go_loopw [23] (fun i wr => ∃ k : Nat, k ≤ R1.length ∧ i = .int .i64 k ∧ Below w9.heap.size w9 wr) (fun i _ => R1.length - (intOf i).toNat)
                    case atStart => exact ⟨0, Nat.zero_le _, rfl, Below.refl _ _⟩
                    case round =>
                      obtain ⟨wy, rfl⟩ : ∃ x, x = wr := ⟨_, rfl⟩
                      obtain ⟨k9, hk9, rfl, hb10⟩ := hrel
                      have k3' : wy.cell? ⟨w6.heap.size + 1, 3, none⟩ = some (.slice A18 R1.length d18) := ((bcell hb10).1 _ _ z9).trans k3
                      have HBy9 := Lib.hid hb10
                      by_cases hlt9 : k9 < R1.length
                      · obtain ⟨b11, o11, x, rfl, hx, q11⟩ := ints_at HR9.out hb10 hlt9
                        obtain ⟨b12, o12, y, rfl, hy, q12⟩ := ints_at HV9.out hb10 hlt9
                        have exy : y = 15 - x := by
                          have h := hy.out
                          rw [List.getElem?_map, hx.out] at h
                          simpa using h.symm
                        subst exy
                        obtain ⟨hx81, hx82⟩ := HRM.out x (List.mem_of_getElem? hx.out)
                        clear hx hy hb10
                        go_wp2_with fail
                        go_quiet (fail)
                        go_wp2_with fail
                        go_roundw
                        case rel => exact ⟨k9 + 1, by omega, by simp, below_drewN HBy9.out _⟩
                        case measure => simp [intOf]; omega
                      · go_wp2_with fail
                        go_ret
                        exact ⟨rfl, HBF.out.trans (HBy9.out.mono HBF.out.size)⟩
                  · by_cases hne : ns = []
                    · subst hne
                      have hp : parseL (cS 16 ++ pLook ++ [115, 105, 110, 103, 108, 101] ++ pRule ++ moreB ([].map gN) ++ pMid ++ moreB (([].map (15 - ·)).map gN)) = .ok (pairF false []) := by
                        have h := pair_right false [] hns.out.2 hns.out.1 hnl
                        rw [psrc_eq, show moreB ([] : List B) = [] from rfl, List.append_nil] at h
                        exact h
                      generalize cS 16 = S0 at *
                      have em1 : moreB ([].map gN) = [] := rfl
                      have em2 : moreB (([].map (15 - ·)).map gN) = [] := rfl
                      rw [em1, em2] at hp
                      rw [em1, em2]
                      clear em1 em2
                      obtain ⟨M1, hM1⟩ : ∃ x : B, ([] : B) = x := ⟨_, rfl⟩
                      clear hM1 M1
                      unfold pLook pRule pMid at hp
                      have hapQ1 : (ByteArray.mk S0.toArray) ++ ⟨#[108, 111, 111, 107, 117, 112, 32]⟩ = ⟨(S0 ++ [108, 111, 111, 107, 117, 112, 32]).toArray⟩ := app_list S0 [108, 111, 111, 107, 117, 112, 32]
                      have hlQ1 : (S0 ++ [108, 111, 111, 107, 117, 112, 32]).length ≤ 400 := by rw [List.length_append]; simp only [List.length_cons, List.length_nil]; omega
                      generalize hQ1 : S0 ++ [108, 111, 111, 107, 117, 112, 32] = Q1 at *
                      have hapQ2 : (ByteArray.mk Q1.toArray) ++ ⟨#[115, 105, 110, 103, 108, 101]⟩ = ⟨(Q1 ++ [115, 105, 110, 103, 108, 101]).toArray⟩ := app_list Q1 [115, 105, 110, 103, 108, 101]
                      have hlQ2 : (Q1 ++ [115, 105, 110, 103, 108, 101]).length ≤ 420 := by rw [List.length_append]; simp only [List.length_cons, List.length_nil]; omega
                      generalize hQ2 : Q1 ++ [115, 105, 110, 103, 108, 101] = Q2 at *
                      have hapQ3 : (ByteArray.mk Q2.toArray) ++ ⟨#[10, 114, 117, 108, 101, 32, 47, 32, 91]⟩ = ⟨(Q2 ++ [10, 114, 117, 108, 101, 32, 47, 32, 91]).toArray⟩ := app_list Q2 [10, 114, 117, 108, 101, 32, 47, 32, 91]
                      have hlQ3 : (Q2 ++ [10, 114, 117, 108, 101, 32, 47, 32, 91]).length ≤ 440 := by rw [List.length_append]; simp only [List.length_cons, List.length_nil]; omega
                      generalize hQ3 : Q2 ++ [10, 114, 117, 108, 101, 32, 47, 32, 91] = Q3 at *
                      have hapQ4 : (ByteArray.mk Q3.toArray) ++ ⟨#[]⟩ = ⟨(Q3 ++ []).toArray⟩ := app_list Q3 []
                      have hlQ4 : (Q3 ++ []).length ≤ 600 := by rw [List.length_append]; simp only [List.length_cons, List.length_nil]; omega
                      generalize hQ4 : Q3 ++ [] = Q4 at *
                      have hapQ5 : (ByteArray.mk Q4.toArray) ++ ⟨#[32, 93, 32, 47, 32, 62]⟩ = ⟨(Q4 ++ [32, 93, 32, 47, 32, 62]).toArray⟩ := app_list Q4 [32, 93, 32, 47, 32, 62]
                      have hlQ5 : (Q4 ++ [32, 93, 32, 47, 32, 62]).length ≤ 640 := by rw [List.length_append]; simp only [List.length_cons, List.length_nil]; omega
                      generalize hQ5 : Q4 ++ [32, 93, 32, 47, 32, 62] = Q5 at *
                      have hapQ6 : (ByteArray.mk Q5.toArray) ++ ⟨#[]⟩ = ⟨(Q5 ++ []).toArray⟩ := app_list Q5 []
                      have hlQ6 : (Q5 ++ []).length ≤ 800 := by rw [List.length_append]; simp only [List.length_cons, List.length_nil]; omega
                      generalize hQ6 : Q5 ++ [] = Q6 at *
                      have HP := Lib.hid hp
                      clear hp hQ1 hQ2 hQ3 hQ4 hQ5 hQ6
                      have hf := parseFont_ok w3 Q6 (by omega) (HTB.out.below HBw.out) (Nat.le_trans hnT HBx.out.size)
                      rw [HP.out] at hf
                      have HF := Lib.hid hf
                      clear hf HP
                      go_wp2_with fail
                      refine HF.out.mono ?_
                      rintro e w6 ⟨hb6, fc, rfl, hfn⟩
                      obtain ⟨A1, d1, A2, d2, b3, o3, d3, A4, d4, A5, d5, A6, d6, A7, d7, A8, d8, b4, o4, d14, A15, d15, b6, o6, d16, A17, d17, A18, d18, A19, d19, B1, e1, rfl, ⟨zb3, zb4, zb6⟩, g2, p0, p1, p2, p3, p4, p5, u3, v1, v2⟩ := pair_fnt hfn
                      have HB6 : Hid (Below w.heap.size w w6) := Lib.hid (HBx.out.trans (hb6.mono HBx.out.size))
                      have hz6 := HB6.out.size
                      have HO6 := Lib.hid (own_below HO3.out hb6)
                      have hsl1 := Nat.le_trans (setOf_len []) hnl
                      have HOF := Lib.hid (fun W h => of_ok W A [].length ca [] h (by omega))
                      have HRM : Hid (∀ x ∈ setOf [], In 8 x) := Lib.hid (fun x hx => hns.out.2 x ((setOf_mem x _).1 hx))
                      clear hb6 hfn HF
                      generalize setOf [] = R1 at *
                      rw [List.length_map] at p3 v2
                      have HV1 := Lib.hid v1
                      have HV2 := Lib.hid v2
                      clear v1 v2
                      go_wp2_with fail
                      generalize hW7 : (World.alloc (World.alloc w6 _) _) = W7
                      have hk7 : Bk W7 (w6.heap.size + 1) 76 #[.slice A15 0 d15, .slice (some ⟨b6, o6, none⟩) 1 d16, .slice A17 0 d17, .slice A18 R1.length d18, .slice A19 0 d19, .int .i64 0] := by
                        rw [← hW7]
                        have h := Bk.new (w6.alloc (.cells #[.int .i64 0, .slice A1 (gGs 16).length d1, .slice A2 0 d2, .slice (some ⟨b3, o3, none⟩) 1 d3, .slice A4 0 d4, .slice A5 0 d5, .slice A6 0 d6, .slice A7 0 d7, .slice A8 0 d8] tFnt)) 76 #[.slice A15 0 d15, .slice (some ⟨b6, o6, none⟩) 1 d16, .slice A17 0 d17, .slice A18 R1.length d18, .slice A19 0 d19, .int .i64 0]
                        simpa using h
                      have hb7 : Below w6.heap.size w6 W7 := by rw [← hW7]; exact ((Below.refl _ _).alloc (Nat.le_refl _) _).alloc (by simp) _
                      have HK7 := Lib.hid hk7
                      have HB7 := Lib.hid hb7
                      have z7 : w6.heap.size + 1 < W7.heap.size := hk7.lt
                      clear hW7 hk7 hb7 g2 p0 p1 p2 p3 p4 p5
                      refine (HOF.out W7 (own_rdI (own_below HO6.out HB7.out))).mono ?_
                      rintro e w8 ⟨⟨A9, c9, rfl, hr8⟩, hb8⟩
                      have HB8 : Hid (Below w6.heap.size w6 w8) := Lib.hid (HB7.out.trans (hb8.mono HB7.out.size))
                      have k1 : w8.cell? ⟨w6.heap.size + 1, 1, none⟩ = some (.slice (some ⟨b6, o6, none⟩) 1 d16) := ((bcell hb8).1 _ _ z7).trans (HK7.out.cell 1)
                      have u8 : w8.cell? ⟨b6, o6, none⟩ = some (.slice B1 R1.length e1) := ((bcell HB8.out).1 _ _ zb6).trans u3
                      have HSM := Lib.hid (same06_self w8 B1 A9 R1.length R1.length e1 c9 R1 ((HV1.out.below HB8.out (Nat.le_refl _)).mono HB8.out.size) hr8 (by omega))
                      have HR8 := Lib.hid hr8
                      have Hb8 := Lib.hid hb8
                      clear hr8 hb8 u3 HOF
                      go_wp2_with fail
                      refine HSM.out.mono ?_
                      rintro e w9 ⟨rfl, hb9⟩
                      have HB9 : Hid (Below w6.heap.size w6 w9) := Lib.hid (HB8.out.trans (hb9.mono HB8.out.size))
                      have HK9 : Hid (Bk w9 (w6.heap.size + 1) 76 #[.slice A15 0 d15, .slice (some ⟨b6, o6, none⟩) 1 d16, .slice A17 0 d17, .slice A18 R1.length d18, .slice A19 0 d19, .int .i64 0]) := Lib.hid ((hb9.block _ (Nat.lt_of_lt_of_le z7 Hb8.out.size)).trans ((Hb8.out.block _ z7).trans HK7.out))
                      have HR9 : Hid (Rd w9 w9.heap.size A9 R1.length 1 (cIs R1)) := Lib.hid ((HR8.out.below hb9 (Nat.le_refl _)).mono hb9.size)
                      have HV9 : Hid (Rd w9 w9.heap.size A18 R1.length 1 (cIs (R1.map (15 - ·)))) := Lib.hid ((HV2.out.below HB9.out (Nat.le_refl _)).mono HB9.out.size)
                      have k3 : w9.cell? ⟨w6.heap.size + 1, 3, none⟩ = some (.slice A18 R1.length d18) := HK9.out.cell 3
                      have z9 := HK9.out.lt
                      have HBF : Hid (Below w.heap.size w w9) := Lib.hid (HB6.out.trans (HB9.out.mono hz6))
                      clear hb9 HSM k1 u8
                      go_wp2_with fail
                      go_loopw [23] (fun i wr => ∃ k : Nat, k ≤ R1.length ∧ i = .int .i64 k ∧ Below w9.heap.size w9 wr) (fun i _ => R1.length - (intOf i).toNat)
                      case atStart => exact ⟨0, Nat.zero_le _, rfl, Below.refl _ _⟩
                      case round =>
                        obtain ⟨wy, rfl⟩ : ∃ x, x = wr := ⟨_, rfl⟩
                        obtain ⟨k9, hk9, rfl, hb10⟩ := hrel
                        have k3' : wy.cell? ⟨w6.heap.size + 1, 3, none⟩ = some (.slice A18 R1.length d18) := ((bcell hb10).1 _ _ z9).trans k3
                        have HBy9 := Lib.hid hb10
                        by_cases hlt9 : k9 < R1.length
                        · obtain ⟨b11, o11, x, rfl, hx, q11⟩ := ints_at HR9.out hb10 hlt9
                          obtain ⟨b12, o12, y, rfl, hy, q12⟩ := ints_at HV9.out hb10 hlt9
                          have exy : y = 15 - x := by
                            have h := hy.out
                            rw [List.getElem?_map, hx.out] at h
                            simpa using h.symm
                          subst exy
                          obtain ⟨hx81, hx82⟩ := HRM.out x (List.mem_of_getElem? hx.out)
                          clear hx hy hb10
                          go_wp2_with fail
                          go_quiet (fail)
                          go_wp2_with fail
                          go_roundw
                          case rel => exact ⟨k9 + 1, by omega, by simp, below_drewN HBy9.out _⟩
                          case measure => simp [intOf]; omega
                        · go_wp2_with fail
                          go_ret
                          exact ⟨rfl, HBF.out.trans (HBy9.out.mono HBF.out.size)⟩
                    · obtain ⟨a, r0, hns0⟩ : ∃ a r0, ns = a :: r0 := List.exists_cons_of_ne_nil hne
                      have ha : a ∈ ns := by rw [hns0]; simp
                      have hnp : 0 < ns.length := by rw [hns0]; simp
                      have hp : parseL (cS 16 ++ pLook ++ [115, 105, 110, 103, 108, 101] ++ pRule ++ (moreB (ns.map gN) ++ [32, 103] ++ itB a) ++ pMid ++ (moreB ((ns.map (15 - ·)).map gN) ++ [32, 103, 48])) = .error (18, 24) := by
                        have h := pair_twice false ns hns.out.2 hnl a ha
                        rw [psrc_eq, show moreB ([] : List B) = [] from rfl, List.append_nil, more_sn, more_sn] at h
                        have e1 : gN 0 = [103, 48] := by decide +kernel
                        rw [e1] at h
                        simpa [gN, pLook, pRule, pMid, kName] using h
                      obtain ⟨b6, o6, a2, rfl, ha2, q6⟩ := ints_at (own_rdI HO.out) HB3.out hnp
                      simp only [Nat.add_zero] at q6
                      have ea : a2 = a := by have := ha2.out; rw [hns0] at this; simpa using this.symm
                      subst ea
                      obtain ⟨a81, a82⟩ := hns.out.2 a2 ha
                      have HDA := Lib.hid (fun w' => decimal_ok w' a2 ⟨by omega, by omega⟩)
                      have hila := it_len a2 ⟨by omega, by omega⟩
                      have hnl0 : ns.length ≤ 8 := hnl
                      clear hns0 hne ha ha2
                      generalize cS 16 = S0 at *
                      generalize moreB (ns.map gN) = M1 at *
                      generalize moreB ((ns.map (15 - ·)).map gN) = M2 at *
                      generalize itB a2 = D1 at *
                      have hapL1 : (ByteArray.mk M1.toArray) ++ ⟨#[32, 103]⟩ = ⟨(M1 ++ [32, 103]).toArray⟩ := app_list M1 [32, 103]
                      have hlL1 : (M1 ++ [32, 103]).length ≤ 100 := by rw [List.length_append]; simp only [List.length_cons, List.length_nil]; omega
                      generalize hL1 : M1 ++ [32, 103] = L1 at *
                      have hapL2 : (ByteArray.mk L1.toArray) ++ ⟨D1.toArray⟩ = ⟨(L1 ++ D1).toArray⟩ := app_list L1 D1
                      have hlL2 : (L1 ++ D1).length ≤ 120 := by rw [List.length_append]; omega
                      generalize hL2 : L1 ++ D1 = L2 at *
                      have hapR1 : (ByteArray.mk M2.toArray) ++ ⟨#[32, 103, 48]⟩ = ⟨(M2 ++ [32, 103, 48]).toArray⟩ := app_list M2 [32, 103, 48]
                      have hlR1 : (M2 ++ [32, 103, 48]).length ≤ 100 := by rw [List.length_append]; simp only [List.length_cons, List.length_nil]; omega
                      generalize hR1 : M2 ++ [32, 103, 48] = R1 at *
                      unfold pLook pRule pMid at hp
                      have hapQ1 : (ByteArray.mk S0.toArray) ++ ⟨#[108, 111, 111, 107, 117, 112, 32]⟩ = ⟨(S0 ++ [108, 111, 111, 107, 117, 112, 32]).toArray⟩ := app_list S0 [108, 111, 111, 107, 117, 112, 32]
                      have hlQ1 : (S0 ++ [108, 111, 111, 107, 117, 112, 32]).length ≤ 400 := by rw [List.length_append]; simp only [List.length_cons, List.length_nil]; omega
                      generalize hQ1 : S0 ++ [108, 111, 111, 107, 117, 112, 32] = Q1 at *
                      have hapQ2 : (ByteArray.mk Q1.toArray) ++ ⟨#[115, 105, 110, 103, 108, 101]⟩ = ⟨(Q1 ++ [115, 105, 110, 103, 108, 101]).toArray⟩ := app_list Q1 [115, 105, 110, 103, 108, 101]
                      have hlQ2 : (Q1 ++ [115, 105, 110, 103, 108, 101]).length ≤ 420 := by rw [List.length_append]; simp only [List.length_cons, List.length_nil]; omega
                      generalize hQ2 : Q1 ++ [115, 105, 110, 103, 108, 101] = Q2 at *
                      have hapQ3 : (ByteArray.mk Q2.toArray) ++ ⟨#[10, 114, 117, 108, 101, 32, 47, 32, 91]⟩ = ⟨(Q2 ++ [10, 114, 117, 108, 101, 32, 47, 32, 91]).toArray⟩ := app_list Q2 [10, 114, 117, 108, 101, 32, 47, 32, 91]
                      have hlQ3 : (Q2 ++ [10, 114, 117, 108, 101, 32, 47, 32, 91]).length ≤ 440 := by rw [List.length_append]; simp only [List.length_cons, List.length_nil]; omega
                      generalize hQ3 : Q2 ++ [10, 114, 117, 108, 101, 32, 47, 32, 91] = Q3 at *
                      have hapQ4 : (ByteArray.mk Q3.toArray) ++ ⟨L2.toArray⟩ = ⟨(Q3 ++ L2).toArray⟩ := app_list Q3 L2
                      have hlQ4 : (Q3 ++ L2).length ≤ 600 := by rw [List.length_append]; omega
                      generalize hQ4 : Q3 ++ L2 = Q4 at *
                      have hapQ5 : (ByteArray.mk Q4.toArray) ++ ⟨#[32, 93, 32, 47, 32, 62]⟩ = ⟨(Q4 ++ [32, 93, 32, 47, 32, 62]).toArray⟩ := app_list Q4 [32, 93, 32, 47, 32, 62]
                      have hlQ5 : (Q4 ++ [32, 93, 32, 47, 32, 62]).length ≤ 640 := by rw [List.length_append]; simp only [List.length_cons, List.length_nil]; omega
                      generalize hQ5 : Q4 ++ [32, 93, 32, 47, 32, 62] = Q5 at *
                      have hapQ6 : (ByteArray.mk Q5.toArray) ++ ⟨R1.toArray⟩ = ⟨(Q5 ++ R1).toArray⟩ := app_list Q5 R1
                      have hlQ6 : (Q5 ++ R1).length ≤ 800 := by rw [List.length_append]; omega
                      generalize hQ6 : Q5 ++ R1 = Q6 at *
                      have HP := Lib.hid hp
                      clear hp hQ1 hQ2 hQ3 hQ4 hQ5 hQ6 hL1 hL2 hR1
                      have zb6 : b6 < w3.heap.size := World.block_lt_of_cell? w3 _ q6
                      go_wp2_with fail
                      refine (HDA.out _).mono ?_
                      rintro e w4 ⟨rfl, hb4⟩
                      have HBy : Hid (Below w1.heap.size w1 w4) := Lib.hid (HBw.out.trans (hb4.mono HBw.out.size))
                      have HBz : Hid (Below w.heap.size w w4) := Lib.hid (HB1.out.trans (HBy.out.mono hz1))
                      clear hb4 HDA
                      have hf := parseFont_ok w4 Q6 (by omega) (HTB.out.below HBy.out) (Nat.le_trans hnT HBz.out.size)
                      rw [HP.out] at hf
                      have HF := Lib.hid hf
                      clear hf HP
                      go_wp2_with fail
                      refine HF.out.mono ?_
                      rintro e w6 ⟨hb6, rfl⟩
                      have HB6 : Hid (Below w.heap.size w w6) := Lib.hid (HBz.out.trans (hb6.mono HBz.out.size))
                      have hz6 := HB6.out.size
                      clear hb6 HF
                      go_wp2_with fail
                      go_ret
                      exact ⟨rfl, HB6.out.alloc hz6 _⟩
                  · have hp : parseL (cS 16 ++ pLook ++ [115, 105, 110, 103, 108, 101] ++ pRule ++ moreB (ns.map gN) ++ pMid ++ (moreB ((ns.map (15 - ·)).map gN) ++ [32, 103, 49])) = .error (18, 22) := by
                      have h := pair_more false ns hns.out.2 hns.out.1 hnl
                      rw [psrc_eq, show moreB ([] : List B) = [] from rfl, List.append_nil, more_sn] at h
                      have e1 : gN 1 = [103, 49] := by decide +kernel
                      rw [e1] at h
                      exact h
                    generalize cS 16 = S0 at *
                    generalize moreB (ns.map gN) = M1 at *
                    generalize moreB ((ns.map (15 - ·)).map gN) = M2 at *
                    have hapR1 : (ByteArray.mk M2.toArray) ++ ⟨#[32, 103, 49]⟩ = ⟨(M2 ++ [32, 103, 49]).toArray⟩ := app_list M2 [32, 103, 49]
                    have hlR1 : (M2 ++ [32, 103, 49]).length ≤ 100 := by rw [List.length_append]; simp only [List.length_cons, List.length_nil]; omega
                    generalize hR1 : M2 ++ [32, 103, 49] = R1 at *
                    unfold pLook pRule pMid at hp
                    have hapQ1 : (ByteArray.mk S0.toArray) ++ ⟨#[108, 111, 111, 107, 117, 112, 32]⟩ = ⟨(S0 ++ [108, 111, 111, 107, 117, 112, 32]).toArray⟩ := app_list S0 [108, 111, 111, 107, 117, 112, 32]
                    have hlQ1 : (S0 ++ [108, 111, 111, 107, 117, 112, 32]).length ≤ 400 := by rw [List.length_append]; simp only [List.length_cons, List.length_nil]; omega
                    generalize hQ1 : S0 ++ [108, 111, 111, 107, 117, 112, 32] = Q1 at *
                    have hapQ2 : (ByteArray.mk Q1.toArray) ++ ⟨#[115, 105, 110, 103, 108, 101]⟩ = ⟨(Q1 ++ [115, 105, 110, 103, 108, 101]).toArray⟩ := app_list Q1 [115, 105, 110, 103, 108, 101]
                    have hlQ2 : (Q1 ++ [115, 105, 110, 103, 108, 101]).length ≤ 420 := by rw [List.length_append]; simp only [List.length_cons, List.length_nil]; omega
                    generalize hQ2 : Q1 ++ [115, 105, 110, 103, 108, 101] = Q2 at *
                    have hapQ3 : (ByteArray.mk Q2.toArray) ++ ⟨#[10, 114, 117, 108, 101, 32, 47, 32, 91]⟩ = ⟨(Q2 ++ [10, 114, 117, 108, 101, 32, 47, 32, 91]).toArray⟩ := app_list Q2 [10, 114, 117, 108, 101, 32, 47, 32, 91]
                    have hlQ3 : (Q2 ++ [10, 114, 117, 108, 101, 32, 47, 32, 91]).length ≤ 440 := by rw [List.length_append]; simp only [List.length_cons, List.length_nil]; omega
                    generalize hQ3 : Q2 ++ [10, 114, 117, 108, 101, 32, 47, 32, 91] = Q3 at *
                    have hapQ4 : (ByteArray.mk Q3.toArray) ++ ⟨M1.toArray⟩ = ⟨(Q3 ++ M1).toArray⟩ := app_list Q3 M1
                    have hlQ4 : (Q3 ++ M1).length ≤ 600 := by rw [List.length_append]; omega
                    generalize hQ4 : Q3 ++ M1 = Q4 at *
                    have hapQ5 : (ByteArray.mk Q4.toArray) ++ ⟨#[32, 93, 32, 47, 32, 62]⟩ = ⟨(Q4 ++ [32, 93, 32, 47, 32, 62]).toArray⟩ := app_list Q4 [32, 93, 32, 47, 32, 62]
                    have hlQ5 : (Q4 ++ [32, 93, 32, 47, 32, 62]).length ≤ 640 := by rw [List.length_append]; simp only [List.length_cons, List.length_nil]; omega
                    generalize hQ5 : Q4 ++ [32, 93, 32, 47, 32, 62] = Q5 at *
                    have hapQ6 : (ByteArray.mk Q5.toArray) ++ ⟨R1.toArray⟩ = ⟨(Q5 ++ R1).toArray⟩ := app_list Q5 R1
                    have hlQ6 : (Q5 ++ R1).length ≤ 800 := by rw [List.length_append]; omega
                    generalize hQ6 : Q5 ++ R1 = Q6 at *
                    have HP := Lib.hid hp
                    clear hp hQ1 hQ2 hQ3 hQ4 hQ5 hQ6 hR1
                    have hf := parseFont_ok w3 Q6 (by omega) (HTB.out.below HBw.out) (Nat.le_trans hnT HBx.out.size)
                    rw [HP.out] at hf
                    have HF := Lib.hid hf
                    clear hf HP
                    go_wp2_with fail
                    refine HF.out.mono ?_
                    rintro e w6 ⟨hb6, rfl⟩
                    have HB6 : Hid (Below w.heap.size w w6) := Lib.hid (HBx.out.trans (hb6.mono HBx.out.size))
                    have hz6 := HB6.out.size
                    clear hb6 HF
                    go_wp2_with fail
                    go_ret
                    exact ⟨rfl, HB6.out.alloc hz6 _⟩
                  · have hp : parseL (cS 16 ++ pLook ++ [115, 105, 110, 103, 108, 101] ++ pRule ++ moreB (ns.map gN) ++ pMid ++ (moreB ((ns.map (15 - ·)).map gN) ++ [32, 103, 49, 54])) = .error (18, 23) := by
                      have h := pair_name false ns hns.out.2 hnl
                      have e1 : moreB [gN 16] = [32, 103, 49, 54] := by decide +kernel
                      rw [psrc_eq, e1] at h
                      exact h
                    generalize cS 16 = S0 at *
                    generalize moreB (ns.map gN) = M1 at *
                    generalize moreB ((ns.map (15 - ·)).map gN) = M2 at *
                    have hapR1 : (ByteArray.mk M2.toArray) ++ ⟨#[32, 103, 49, 54]⟩ = ⟨(M2 ++ [32, 103, 49, 54]).toArray⟩ := app_list M2 [32, 103, 49, 54]
                    have hlR1 : (M2 ++ [32, 103, 49, 54]).length ≤ 100 := by rw [List.length_append]; simp only [List.length_cons, List.length_nil]; omega
                    generalize hR1 : M2 ++ [32, 103, 49, 54] = R1 at *
                    unfold pLook pRule pMid at hp
                    have hapQ1 : (ByteArray.mk S0.toArray) ++ ⟨#[108, 111, 111, 107, 117, 112, 32]⟩ = ⟨(S0 ++ [108, 111, 111, 107, 117, 112, 32]).toArray⟩ := app_list S0 [108, 111, 111, 107, 117, 112, 32]
                    have hlQ1 : (S0 ++ [108, 111, 111, 107, 117, 112, 32]).length ≤ 400 := by rw [List.length_append]; simp only [List.length_cons, List.length_nil]; omega
                    generalize hQ1 : S0 ++ [108, 111, 111, 107, 117, 112, 32] = Q1 at *
                    have hapQ2 : (ByteArray.mk Q1.toArray) ++ ⟨#[115, 105, 110, 103, 108, 101]⟩ = ⟨(Q1 ++ [115, 105, 110, 103, 108, 101]).toArray⟩ := app_list Q1 [115, 105, 110, 103, 108, 101]
                    have hlQ2 : (Q1 ++ [115, 105, 110, 103, 108, 101]).length ≤ 420 := by rw [List.length_append]; simp only [List.length_cons, List.length_nil]; omega
                    generalize hQ2 : Q1 ++ [115, 105, 110, 103, 108, 101] = Q2 at *
                    have hapQ3 : (ByteArray.mk Q2.toArray) ++ ⟨#[10, 114, 117, 108, 101, 32, 47, 32, 91]⟩ = ⟨(Q2 ++ [10, 114, 117, 108, 101, 32, 47, 32, 91]).toArray⟩ := app_list Q2 [10, 114, 117, 108, 101, 32, 47, 32, 91]
                    have hlQ3 : (Q2 ++ [10, 114, 117, 108, 101, 32, 47, 32, 91]).length ≤ 440 := by rw [List.length_append]; simp only [List.length_cons, List.length_nil]; omega
                    generalize hQ3 : Q2 ++ [10, 114, 117, 108, 101, 32, 47, 32, 91] = Q3 at *
                    have hapQ4 : (ByteArray.mk Q3.toArray) ++ ⟨M1.toArray⟩ = ⟨(Q3 ++ M1).toArray⟩ := app_list Q3 M1
                    have hlQ4 : (Q3 ++ M1).length ≤ 600 := by rw [List.length_append]; omega
                    generalize hQ4 : Q3 ++ M1 = Q4 at *
                    have hapQ5 : (ByteArray.mk Q4.toArray) ++ ⟨#[32, 93, 32, 47, 32, 62]⟩ = ⟨(Q4 ++ [32, 93, 32, 47, 32, 62]).toArray⟩ := app_list Q4 [32, 93, 32, 47, 32, 62]
                    have hlQ5 : (Q4 ++ [32, 93, 32, 47, 32, 62]).length ≤ 640 := by rw [List.length_append]; simp only [List.length_cons, List.length_nil]; omega
                    generalize hQ5 : Q4 ++ [32, 93, 32, 47, 32, 62] = Q5 at *
                    have hapQ6 : (ByteArray.mk Q5.toArray) ++ ⟨R1.toArray⟩ = ⟨(Q5 ++ R1).toArray⟩ := app_list Q5 R1
                    have hlQ6 : (Q5 ++ R1).length ≤ 800 := by rw [List.length_append]; omega
                    generalize hQ6 : Q5 ++ R1 = Q6 at *
                    have HP := Lib.hid hp
                    clear hp hQ1 hQ2 hQ3 hQ4 hQ5 hQ6 hR1
                    have hf := parseFont_ok w3 Q6 (by omega) (HTB.out.below HBw.out) (Nat.le_trans hnT HBx.out.size)
                    rw [HP.out] at hf
                    have HF := Lib.hid hf
                    clear hf HP
                    go_wp2_with fail
                    refine HF.out.mono ?_
                    rintro e w6 ⟨hb6, rfl⟩
                    have HB6 : Hid (Below w.heap.size w w6) := Lib.hid (HBx.out.trans (hb6.mono HBx.out.size))
                    have hz6 := HB6.out.size
                    clear hb6 HF
                    go_wp2_with fail
                    go_ret
                    exact ⟨rfl, HB6.out.alloc hz6 _⟩
end Go.Proofs.YtkijckccfookeaaGreatDoor
