/- Rows of bytes that came in as arguments: where they lie, what they hold. -/
import Derived.Test.YtkijckccfookeaaGreatDoorM00
import Derived.Test.YtkijckccfookeaaGreatDoorM04
import Derived.Test.YtkijckccfookeaaGreatDoorM09
import Derived.Test.YtkijckccfookeaaGreatDoorM06
import Derived.Deep.Slices
import Derived.Deep.Fields
import Derived.ChangeSame
import Derived.ProofKit
import Derived.Lib.SmallJoins
import Derived.SliceStrings
import Derived.OpenShut
import Derived.Test.YtkijckccfookeaaGreatDoorProg
import Derived.KernelRfl
import Derived.BigQuiet
namespace Go.Proofs.YtkijckccfookeaaGreatDoor
open Go.ChangeShapes Go.WideShapes Go.Deep Go.Joins Go.RowKit

def cYs (zs : List UInt8) : List Value := zs.map fun c => .int .u8 c.toNat
theorem cYs_get (zs : List UInt8) (k : Nat) (c : UInt8) (h : zs[k]? = some c) : (cYs zs)[k]? = some (.int .u8 c.toNat) := by simp [cYs, h]
theorem cellsY : Tryz.prog.cellsOf 5 = 1 := by kernel_rfl
section
variable {H : Type} {enc : TypeId × Value → H} {w : World} {base : Nat} {held : Bool}
set_option maxRecDepth 100000 in
theorem open_bts0 {fuel : Nat} {c0 : Value} {x : DataW H × List MemPlace} (h : DataW.trod enc Tryz.prog w base (fun _ => true) held fuel 68 [c0] = some x) :
    ∃ (A : Option Addr) (n c : Nat) (zs : List UInt8), c0 = .slice A n c ∧ n ≤ c ∧ c ≤ maxLen ∧ Rd w w.heap.size A n 1 (cYs zs) := by
  rcases open_ints Tryz.underlying68 Tryz.underlying5 cellsY h with ⟨hcs, _⟩ | ⟨a, len, cap, zs, hcs, _, hl, hm, hz, _, hcell, hwz⟩
  · simp only [List.cons.injEq, and_true] at hcs
    exact ⟨none, 0, 0, [], hcs, by omega, by simp, Rd.nil _ _ _ _⟩
  · simp only [List.cons.injEq, and_true] at hcs
    have hz' : zs.length = cap := by simpa using hz
    refine ⟨some a, len, cap, (zs.take len).map (fun z => UInt8.ofNat z.toNat), hcs, hl, hm, ⟨by simp [cYs]; omega, fun hn => ?_⟩⟩
    obtain ⟨b, o, s⟩ := a
    have h0 := hcell 0 (by omega)
    have hs : s = none := by simpa [Addr.add] using World.cell?_spot h0
    subst hs
    have hlt : b < w.heap.size := by
      rw [addr_add] at h0
      exact World.block_lt_of_cell? w _ h0
    refine ⟨b, o, rfl, hlt, fun j u hu => ?_⟩
    simp only [cYs, List.map_map, List.getElem?_map, Option.map_eq_some_iff] at hu
    obtain ⟨q, hq, rfl⟩ := hu
    rw [List.getElem?_take] at hq
    split at hq
    · have h1 := hcell j (List.getElem?_eq_some_iff.1 hq).1
      rw [addr_add, List.getD_eq_getElem?_getD, hq] at h1
      obtain ⟨b1, b2⟩ := bounds_u8 (hwz q (List.mem_of_getElem? hq))
      have e : (((UInt8.ofNat q.toNat).toNat : Nat) : Int) = q := by
        rw [UInt8.toNat_ofNat']
        omega
      simp only [Function.comp, e]
      exact h1
    · cases hq
set_option maxRecDepth 100000 in
theorem open_bts {W : World} {r : Reach} {v : Value} {d : DataW H} {p : List MemPlace} (hok : Value.okWide Tryz.prog W r base 68 v) (h : DataW.Trod enc Tryz.prog W 0 (fun _ => true) true 68 v d p) :
    ∃ (A : Option Addr) (n c : Nat) (zs : List UInt8), v = .slice A n c ∧ n ≤ c ∧ c ≤ maxLen ∧ Rd W W.heap.size A n 1 (cYs zs) := by
  obtain ⟨a, len, cap, rfl⟩ := okWide_slice Tryz.underlying68 hok
  obtain ⟨fuel, hf⟩ := h
  exact open_bts0 hf
end
theorem Rd.atY {w : World} {B n : Nat} {A : Option Addr} {zs : List UInt8} (h : Rd w B A n 1 (cYs zs)) {k : Nat} (hk : k < n) :
    ∃ b o c, A = some ⟨b, o, none⟩ ∧ b < B ∧ Hid (zs[k]? = some c) ∧ w.cell? ⟨b, o + k, none⟩ = some (.int .u8 c.toNat) := by
  obtain ⟨b, o, e, hb, hc⟩ := h.2 (by omega)
  have hl := h.1
  simp [cYs] at hl
  have hp : zs[k]? = some (zs[k]'(by omega)) := List.getElem?_eq_getElem (by omega)
  exact ⟨b, o, _, e, hb, hp, hc _ _ (cYs_get zs k _ hp)⟩
end Go.Proofs.YtkijckccfookeaaGreatDoor
/- Digits of numbers, as ref05's Decimal and ref07's digits make them. -/
namespace Go.Proofs.YtkijckccfookeaaGreatDoor
open Go.RowKit

theorem conv1 (w : World) (b : UInt8) : (convert 68 9 (.slice (some ⟨w.heap.size, 0, none⟩) 1 1)).run Tryz.prog (w.alloc (.cells #[.int .u8 b.toNat] 5)) = .ok (.string ⟨#[b]⟩) (w.alloc (.cells #[.int .u8 b.toNat] 5)) :=
  run_convert_bytes_back (w.alloc (.cells #[.int .u8 b.toNat] 5)) 68 9 5 ⟨w.heap.size, 0, none⟩ 1 [b] Tryz.underlying68 Tryz.underlying5 Tryz.underlying9 (fun j hj => by
    obtain rfl : j = 0 := by simpa using hj
    rw [addr_add]
    exact (Bk.new w 5 #[.int .u8 b.toNat]).cell 0)
theorem app_list (a b : B) : (ByteArray.mk a.toArray) ++ ⟨b.toArray⟩ = ⟨(a ++ b).toArray⟩ := by
  apply ByteArray.ext
  rw [ByteArray.data_append]
  apply Array.ext'
  simp
def dgB (n : Nat) : UInt8 := UInt8.ofNat (48 + n % 10)
theorem dgB_nat (n : Nat) : (dgB n).toNat = 48 + n % 10 := by
  rw [dgB, UInt8.toNat_ofNat']
  omega
def decB (u : Nat) : B := if _h : u < 10 then [dgB u] else decB (u / 10) ++ [dgB u]
termination_by u
decreasing_by omega
theorem conv2 (w : World) (n : Int) (u : Nat) (h : n = 48 + (u : Int) % 10) : (convert 68 9 (.slice (some ⟨w.heap.size, 0, none⟩) 1 1)).run Tryz.prog (w.alloc (.cells #[.int .u8 n] 5)) = .ok (.string ⟨#[dgB u]⟩) (w.alloc (.cells #[.int .u8 n] 5)) := by
  have := conv1 w (dgB u)
  rw [dgB_nat] at this
  rw [h]
  have e : (48 + (u : Int) % 10) = ((48 + u % 10 : Nat) : Int) := by omega
  rw [e]
  exact this
/-- the digits of a number; none of 0 -/
def decT (q : Nat) : B := if q = 0 then [] else decB q
theorem decT_pos (q : Nat) (h : 0 < q) : decT q = decT (q / 10) ++ [dgB q] := by
  rw [decT, if_neg (by omega), decB]
  split
  · rw [decT, if_pos (by omega)]; rfl
  · rw [decT, if_neg (by omega)]
theorem decB_split (U : Nat) : decB U = decT (U / 10) ++ [dgB U] := by
  rw [decB]
  split
  · rw [decT, if_pos (by omega)]; rfl
  · rw [decT, if_neg (by omega)]
theorem decB_len (k : Nat) : ∀ u, u < 10 ^ (k + 1) → (decB u).length ≤ k + 1 := by
  induction k with
  | zero =>
    intro u hu
    rw [decB, dif_pos (by simpa using hu)]
    simp
  | succ k ih =>
    intro u hu
    rw [decB]
    split
    · simp
    · have := ih (u / 10) (by rw [pow_step] at hu; omega)
      rw [List.length_append]
      simp
      omega
theorem decB_dec (u : Nat) : decB u = Lib.decDigits u := by
  induction u using Nat.strongRecOn with
  | _ u ih =>
    rw [decB, Lib.decDigits]
    split
    · rename_i h
      rw [dgB, Nat.mod_eq_of_lt h]
    · rw [ih (u / 10) (by omega)]
      rfl
end Go.Proofs.YtkijckccfookeaaGreatDoor
/- The contract of fleuronref05.Decimal. Printed out of wip/w. -/
namespace Go.Proofs.YtkijckccfookeaaGreatDoor
open Go.RowKit

theorem decB_nine (u : Nat) (h : u ≤ 999999999) : (decB u).length ≤ 9 := decB_len 8 u (by show u < 1000000000; omega)
theorem uwrap (U : Nat) (h0 : 1 ≤ U) (hU : U ≤ 999999999) : IntKind.u64.wrap (-IntKind.u64.wrap (-(U : Int))) = U := by
  simp [IntKind.wrap, IntKind.signed, IntKind.bits]
  omega
set_option maxRecDepth 100000 in
set_option maxHeartbeats 4000000 in
theorem decimal_pos (w : World) (U : Nat) (hU : U ≤ 999999999) : Calls Tryz.prog 28 #[.int .i64 U] w fun e w' => e = .returned (.string ⟨(decB U).toArray⟩) ∧ Below w.heap.size w w' := by
  have cv := fun w => conv2 w (48 + (U : Int) % 10) U rfl
  have hn0 : decide ((U : Int) < 0) = false := by simp
  go_enter Tryz.func28, Tryz.ntmps28
  go_wp2
  go_loopw [4, 5] (fun u o wr => ∃ (q : Nat) (out : B), u = .int .u64 q ∧ o = .string ⟨out.toArray⟩ ∧ Hid (decB U = decT q ++ out) ∧ q ≤ 999999999 ∧ Below w.heap.size w wr) (fun u _ _ => (intOf u).toNat)
  case atStart => exact ⟨U / 10, [dgB U], by simp, rfl, decB_split U, by omega, (Below.refl _ _).alloc (Nat.le_refl _) _⟩
  case round =>
    obtain ⟨q, out, rfl, rfl, hdec, hq, hbl⟩ := hrel
    have hol : out.length ≤ 9 := by
      have h1 := congrArg List.length hdec.out
      have h2 := decB_nine U hU
      rw [List.length_append] at h1
      omega
    clear cv
    by_cases h0 : 0 < q
    · have cv := fun w => conv2 w (48 + (q : Int) % 10) q rfl
      have hap : (ByteArray.mk #[dgB q]) ++ ⟨out.toArray⟩ = ⟨(dgB q :: out).toArray⟩ := app_list [dgB q] out
      have hdec2 : Hid (decB U = decT (q / 10) ++ (dgB q :: out)) := by
        show _ = _
        rw [hdec.out, decT_pos q h0]
        simp
      go_wp2
      go_roundw
      case rel => exact ⟨q / 10, dgB q :: out, by simp, rfl, hdec2, by omega, hbl.alloc hbl.size _⟩
      case measure => simp [intOf]; omega
    · obtain rfl : q = 0 := by omega
      have hz : Hid (decB U = out) := by
        show _ = _
        rw [hdec.out, decT, if_pos rfl, List.nil_append]
      have hap : (ByteArray.mk #[]) ++ ⟨out.toArray⟩ = ⟨out.toArray⟩ := app_list [] out
      go_wp2
      go_ret
      exact ⟨by rw [hz.out]; rfl, hbl⟩
set_option maxRecDepth 100000 in
set_option maxHeartbeats 4000000 in
theorem decimal_neg (w : World) (U : Nat) (h0 : 1 ≤ U) (hU : U ≤ 999999999) : Calls Tryz.prog 28 #[.int .i64 (-(U : Int))] w fun e w' => e = .returned (.string ⟨(45 :: decB U).toArray⟩) ∧ Below w.heap.size w w' := by
  have cv := fun w => conv2 w (48 + (U : Int) % 10) U rfl
  have hwr := uwrap U h0 hU
  have hn0 : decide (0 < U) = true := by simp; omega
  go_enter Tryz.func28, Tryz.ntmps28
  go_wp2
  clear hwr
  go_loopw [4, 5] (fun u o wr => ∃ (q : Nat) (out : B), u = .int .u64 q ∧ o = .string ⟨out.toArray⟩ ∧ Hid (decB U = decT q ++ out) ∧ q ≤ 999999999 ∧ Below w.heap.size w wr) (fun u _ _ => (intOf u).toNat)
  case atStart => exact ⟨U / 10, [dgB U], by simp, rfl, decB_split U, by omega, (Below.refl _ _).alloc (Nat.le_refl _) _⟩
  case round =>
    obtain ⟨q, out, rfl, rfl, hdec, hq, hbl⟩ := hrel
    have hol : out.length ≤ 9 := by
      have h1 := congrArg List.length hdec.out
      have h2 := decB_nine U hU
      rw [List.length_append] at h1
      omega
    clear cv
    by_cases h0 : 0 < q
    · have cv := fun w => conv2 w (48 + (q : Int) % 10) q rfl
      have hap : (ByteArray.mk #[dgB q]) ++ ⟨out.toArray⟩ = ⟨(dgB q :: out).toArray⟩ := app_list [dgB q] out
      have hdec2 : Hid (decB U = decT (q / 10) ++ (dgB q :: out)) := by
        show _ = _
        rw [hdec.out, decT_pos q h0]
        simp
      go_wp2
      go_roundw
      case rel => exact ⟨q / 10, dgB q :: out, by simp, rfl, hdec2, by omega, hbl.alloc hbl.size _⟩
      case measure => simp [intOf]; omega
    · obtain rfl : q = 0 := by omega
      have hz : Hid (decB U = out) := by
        show _ = _
        rw [hdec.out, decT, if_pos rfl, List.nil_append]
      have hap : (ByteArray.mk #[45]) ++ ⟨out.toArray⟩ = ⟨(45 :: out).toArray⟩ := app_list [45] out
      go_wp2
      go_ret
      exact ⟨by rw [hz.out]; rfl, hbl⟩
theorem decimal_ok (w : World) (n : Int) (h : N9 n) : Calls Tryz.prog 28 #[.int .i64 n] w fun e w' => e = .returned (.string ⟨(itB n).toArray⟩) ∧ Below w.heap.size w w' := by
  unfold N9 at h
  by_cases h0 : n < 0
  · have e1 : n = -((n.natAbs : Nat) : Int) := by omega
    have e2 : itB n = 45 :: decB n.natAbs := by rw [itB, Lib.itoa, if_pos h0, decB_dec]
    rw [e2]
    conv => arg 3; rw [e1]
    exact decimal_neg w n.natAbs (by omega) (by omega)
  · have e1 : n = ((n.toNat : Nat) : Int) := by omega
    have e2 : itB n = decB n.toNat := by rw [itB, Lib.itoa, if_neg h0, decB_dec]
    rw [e2]
    conv => arg 3; rw [e1]
    exact decimal_pos w n.toNat (by omega)
end Go.Proofs.YtkijckccfookeaaGreatDoor
