/- The contract of fleuronref03.Area. -/
import Derived.Test.YtfpdbdbgemolgaaRefConts
import Derived.Test.YtfpdbdbgemolgaaPure
namespace Go.Proofs.Ytfpdbdbgemolgaa
open Go.RowKit

theorem arSt_alt (z a b c d : Int) : wrap64 (wrap64 (z + wrap64 (a * b)) - wrap64 (c * d)) = wrap64 (z + wrap64 (wrap64 (a * b) - wrap64 (c * d))) := by
  refine wrap_of_cg ?_
  have h1 : Cg (wrap64 (z + wrap64 (a * b)) - wrap64 (c * d)) (z + wrap64 (a * b) - wrap64 (c * d)) := (Cg.wrap _).sub (Cg.refl _)
  have h2 : Cg (z + wrap64 (wrap64 (a * b) - wrap64 (c * d))) (z + (wrap64 (a * b) - wrap64 (c * d))) := (Cg.refl _).add (Cg.wrap _)
  have e : z + wrap64 (a * b) - wrap64 (c * d) = z + (wrap64 (a * b) - wrap64 (c * d)) := by omega
  rw [e] at h1
  exact h1.trans h2.symm
def arRows (l : List (List P3)) : Int := l.foldl (fun z c => arC c z) 0
theorem arRows_eq (ps : List P3) (l : List (Nat × Nat × Nat)) : arRows (contL ps l) = arAll ps l := by
  unfold arRows contL arAll
  rw [List.foldl_map]

set_option maxRecDepth 100000 in
set_option maxHeartbeats 4000000 in
theorem refArea_ok (w : World) (B : Nat) (A E : Option Addr) (n c m d : Nat) (ps : List P3) (es : List Int) (hA : Rd w B A n 3 (c3s ps)) (hE : Rd w B E m 1 (cIs es)) (hB : B ≤ w.heap.size) (hc : n ≤ c) (hc' : c ≤ 9223372036854775807) (hn : n ≤ 100000) (hm : m ≤ 100000) :
    Calls Try.prog 31 #[.agg #[.slice A n c, .slice E m d]] w fun e w' => e = .returned (.int .i64 (arAll ps (pcsF n 0 0 es))) ∧ Below w.heap.size w w' := by
  have hfin := Lib.hid (arRows_eq ps (pcsF n 0 0 es))
  have hcl : ∀ r ∈ contL ps (pcsF n 0 0 es), 0 < r.length ∧ r.length ≤ 100000 := fun r hr => by
    simp only [contL, List.mem_map] at hr
    obtain ⟨p, hp, rfl⟩ := hr
    obtain ⟨-, h1, h2⟩ := pcsF_mem n es 0 0 p hp
    rw [seg_length ps p.2.1 p.2.2 (by rw [hA.len3]; exact h2)]
    omega
  have Hcl := Lib.hid hcl
  have hln : (contL ps (pcsF n 0 0 es)).length ≤ m := by
    have h1 := pcsF_length n es 0 0
    rw [hE.lenI] at h1
    simpa [contL] using h1
  clear hcl
  go_enter Try.func31, Try.ntmps31
  go_wp2_with fail
  refine (refContours_ok _ B A E n c m d ps es (hA.alloc hB _) (hE.alloc hB _) (by simp; omega) hc hc' hn hm).mono ?_
  rintro e w1 ⟨v, hs, rfl, hown, hrows, hb1⟩
  have bw1 : Below w.heap.size w w1 := ((Below.refl _ w).alloc (Nat.le_refl _) _).trans (hb1.mono (by simp))
  obtain ⟨V, cV, rfl, hd⟩ := Rd.of_own hown
  generalize hct : contL ps (pcsF n 0 0 es) = cts at *
  clear hct
  have hl := hrows.1
  generalize hL : hs.length = L at *
  have HL := Lib.hid hL
  have Hl := Lib.hid hl
  have hLm : L ≤ m := by omega
  clear hL hl hb1 hown
  go_wp2_with fail
  go_loopw [3, 5] (fun z i wr => ∃ k : Nat, k ≤ L ∧ i = .int .i64 k ∧ z = .int .i64 (arRows (cts.take k)) ∧ Below w1.heap.size w1 wr) (fun _ i _ => L - (intOf i).toNat)
  case atStart => exact ⟨0, by omega, rfl, rfl, Below.refl _ _⟩
  case round =>
    obtain ⟨k, hk, rfl, rfl, hbr⟩ := hrel
    have hsr := hbr.size
    by_cases hlt : k < L
    · obtain ⟨r, hrk⟩ : ∃ r, cts[k]? = some r := ⟨_, List.getElem?_eq_getElem (by rw [← Hl.out]; exact hlt)⟩
      obtain ⟨hr0, hr1⟩ := Hcl.out r (List.mem_of_getElem? hrk)
      have hnext : Hid (arRows (cts.take (k + 1)) = arC r (arRows (cts.take k))) := by
        obtain ⟨h1, h2⟩ := List.getElem?_eq_some_iff.1 hrk
        show _ = _
        rw [List.take_succ_eq_append_getElem h1, h2]
        simp [arRows]
      obtain ⟨P, kp, cp, h1, -, -, h2⟩ := hrows.2 k r hrk
      have hkp := h2.rd.len3
      rw [hkp] at hr0 hr1
      have Hkp := Lib.hid hkp
      obtain ⟨b, o, rfl, hbb, hc⟩ := hd.2 (by omega)
      have Hq : Hid (w1.cell? ⟨b, o + k, none⟩ = some (.slice P kp cp)) := hc k _ h1
      have zk : (k : Int) < (L : Int) := by omega
      have zk0 : (0 : Int) ≤ (k : Int) := by omega
      clear hrk h1 hc hkp
      generalize arRows (cts.take k) = Z at *
      go_wp2_with fail
      go_loopw [3, 6] (fun z i ws => ∃ j : Nat, j ≤ kp ∧ i = .int .i64 j ∧ z = .int .i64 (arTo r j Z) ∧ Below w1.heap.size w1 ws) (fun _ i _ => kp - (intOf i).toNat)
      case atStart => exact ⟨0, by omega, rfl, rfl, hbr⟩
      case round =>
        obtain ⟨j, hj, rfl, rfl, hbj⟩ := hrel
        have hsj := hbj.size
        have q1 : wr.cell? ⟨b, o + k, none⟩ = some (.slice P kp cp) := cellB hbj Hq.out
        have zb : b < wr.heap.size := by omega
        by_cases hltj : j < kp
        · have hPr : Rd wr w1.heap.size P kp 3 (c3s r) := h2.rd.below hbj (Nat.le_refl _)
          obtain ⟨b1, o1, xa, ya, za, rfl, hb1, hpa, qa1, qa2, qa3⟩ := hPr.at3 hltj
          obtain ⟨j1, hj1⟩ : ∃ j1 : Nat, (j + 1) % kp = j1 := ⟨_, rfl⟩
          have hjl : j1 < kp := by rw [← hj1]; exact Nat.mod_lt _ (by omega)
          have hjI : ((j : Int) + 1) % (kp : Int) = (j1 : Int) := by rw [← hj1]; simp
          have Hj := Lib.hid hj1
          clear hj1
          obtain ⟨b2, o2, xn, yn, zn, e2, -, hpn, qn1, qn2, qn3⟩ := hPr.at3 hjl
          simp only [Option.some.injEq, Addr.mk.injEq, and_true] at e2
          obtain ⟨rfl, rfl⟩ := e2
          have hst : Hid (arTo r (j + 1) Z = wrap64 (wrap64 (arTo r j Z + wrap64 (xa * yn)) - wrap64 (xn * ya))) := by
            show _ = _
            rw [arTo, arSt, Hkp.out, Hj.out, hpa.out, hpn.out, arSt_alt]
          have zb1 : b1 < wr.heap.size := by omega
          have zj : (j : Int) < (kp : Int) := by omega
          have zj0 : (0 : Int) ≤ (j : Int) := by omega
          have zj1 : (j1 : Int) < (kp : Int) := by omega
          have zj10 : (0 : Int) ≤ (j1 : Int) := by omega
          have wj : IntKind.i64.wrap ((j : Int) + 1) = (j : Int) + 1 := IntWalk.i64_in _ (by omega)
          have wj0 : (0 : Int) ≤ (j : Int) + 1 := by omega
          clear hpa hpn hPr
          generalize arTo r j Z = C at *
          go_wp2_with fail
          go_region
          go_wp2_with fail
          go_roundw
          case rel => exact ⟨j + 1, by omega, by go_num, by rw [hst.out], ((hbj.alloc hsj _).alloc (by simp; omega) _).drew⟩
          case measure => simp [intOf]; omega
        · go_wp2_with fail
          go_roundw
          case rel =>
            refine ⟨k + 1, by omega, by go_num, ?_, hbj⟩
            rw [hnext.out, arC, Hkp.out, show j = kp by omega]
          case measure => simp [intOf]; omega
    · have bwr : Below w.heap.size w wr := bw1.trans (hbr.mono bw1.size)
      go_wp2_with fail
      go_ret
      refine ⟨?_, bwr⟩
      rw [← hfin.out, List.take_of_length_le (by rw [← Hl.out]; omega)]
      simp
end Go.Proofs.Ytfpdbdbgemolgaa
