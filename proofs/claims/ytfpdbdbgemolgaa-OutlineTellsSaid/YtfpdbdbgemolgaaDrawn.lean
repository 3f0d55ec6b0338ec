/- The contract of fleuronlaw03.drawn: the document's examples come out. -/
import Derived.BigGuardPart
import Derived.Test.YtfpdbdbgemolgaaLines
import Derived.Test.YtfpdbdbgemolgaaMoved
import Derived.Test.YtfpdbdbgemolgaaRight
namespace Go.Proofs.Ytfpdbdbgemolgaa
open Go.RowKit

def sq : List P3 := [(0, 0, true), (4, 0, true), (4, 4, true), (0, 4, true)]
def sqR : List P3 := [(0, 0, true), (0, 4, true), (4, 4, true), (4, 0, true)]
def sqM : List P3 := [(1, 2, true), (5, 2, true), (5, 6, true), (1, 6, true)]
def cv : List P2 := [(0, 0), (15, 1), (28, 4), (39, 9), (48, 16), (55, 25), (60, 36), (63, 49), (64, 64)]
theorem sq_low : lowP sq = (0, 0) := by decide +kernel
theorem sq_high : highP sq = (4, 4) := by decide +kernel
theorem sq_pcs : pcsF 4 0 0 [3] = [(0, 0, 3)] := by decide +kernel
theorem sq_rev : revAll sq (pcsF 4 0 0 [3]) = sqR := by decide +kernel
theorem sq_mov : sq.map (mv 1 2) = sqM := by decide +kernel
theorem sq_area : arAll sq (pcsF 4 0 0 [3]) = 32 := by decide +kernel
theorem sqR_area : arAll sqR (pcsF 4 0 0 [3]) = -32 := by decide +kernel
theorem sq_right : rightB sq [3] = true := by decide +kernel
theorem no_right : rightB [] [0] = false := by decide +kernel
theorem cv_lines : linesL (spz [(0, 0), (64, 0), (64, 64)] [true, false, true]) (pcsF 3 0 0 [2]) = [cv] := by decide +kernel

theorem Bk.newAt (w : World) (h : Nat) (hh : w.heap.size = h) (t : TypeId) (cs : Array Value) : Bk (w.alloc (.cells cs t)) h t cs := by
  subst hh
  exact heap_alloc_new w _

set_option maxRecDepth 100000 in
set_option maxHeartbeats 4000000 in
theorem drawn_ok (w : World) : Calls Try.prog 13 #[] w fun e w' => e = .returned (.bool true) ∧ Below w.heap.size w w' := by
  have eg := eg40
  have eql40 := run_eql40
  go_enter Try.func13, Try.ntmps13
  go_wp2_with fail
  refine (square_ok w).mono ?_
  rintro e w1 ⟨A, n, c, E, m, d, rfl, ⟨hcap, hcap2⟩, hA, hE, hb1⟩
  obtain rfl : 4 = n := hA.len3
  obtain rfl : 1 = m := hE.lenI
  change Rd w1 w1.heap.size A 4 3 (c3s sq) at hA
  go_wp2_with fail
  refine (box_ok _ w1.heap.size A E 4 c 1 d sq (hA.alloc (Nat.le_refl _) _) (by simp) (by omega)).mono ?_
  rintro e w2 ⟨rfl, hb2⟩
  rw [sq_low, sq_high, show decide (0 < sq.length) = true from rfl]
  have hs2 := hb2.size
  simp only [World.size_alloc] at hs2
  have o2 : Bk w2 w1.heap.size 25 #[.slice A 4 c, .slice E 1 d] := (hb2.block _ (by first | omega | (simp; done) | (simp; omega))).trans (Bk.newAt _ w1.heap.size (by simp) 25 #[.slice A 4 c, .slice E 1 d])
  have hA2 : Rd w2 w1.heap.size A 4 3 (c3s sq) := Rd.below (Rd.alloc hA (by first | omega | (simp; done) | (simp; omega)) _) hb2 (by first | omega | (simp; done) | (simp; omega))
  have hE2 : Rd w2 w1.heap.size E 1 1 (cIs [3]) := Rd.below (Rd.alloc hE (by first | omega | (simp; done) | (simp; omega)) _) hb2 (by first | omega | (simp; done) | (simp; omega))
  have o2c0 : w2.cell? ⟨w1.heap.size, 0, none⟩ = some (.slice A 4 c) := o2.cell 0
  have o2c1 : w2.cell? ⟨w1.heap.size, 1, none⟩ = some (.slice E 1 d) := o2.cell 1
  have o2l := o2.lt
  go_wp2_with fail
  refine (box_ok _ 0 none none 0 0 0 0 [] (Rd.nil _ _ _ _) (Nat.zero_le _) (by omega)).mono ?_
  rintro e w3 ⟨rfl, hb3⟩
  rw [show lowP [] = (0, 0) from rfl, show highP [] = (0, 0) from rfl, show decide (0 < ([] : List P3).length) = false from rfl]
  clear o2c0 o2c1 o2l
  have hs3 := hb3.size
  simp only [World.size_alloc] at hs3
  have o3 : Bk w3 w1.heap.size 25 #[.slice A 4 c, .slice E 1 d] := (hb3.block _ (by have := o2.lt; first | omega | (simp; omega))).trans ((o2.alloc _).alloc _)
  have lo3 : Bk w3 w2.heap.size 40 #[.int .i64 0, .int .i64 0, .bool false] := (hb3.block _ (by first | omega | (simp; done) | (simp; omega))).trans ((Bk.newAt _ w2.heap.size (by simp) 40 #[.int .i64 0, .int .i64 0, .bool false]).alloc _)
  have hi3 : Bk w3 (w2.heap.size + 1) 40 #[.int .i64 4, .int .i64 4, .bool false] := (hb3.block _ (by first | omega | (simp; done) | (simp; omega))).trans (Bk.newAt _ (w2.heap.size + 1) (by simp) 40 #[.int .i64 4, .int .i64 4, .bool false])
  have hA3 : Rd w3 w1.heap.size A 4 3 (c3s sq) := Rd.below (Rd.alloc (Rd.alloc hA2 (by first | omega | (simp; done) | (simp; omega)) _) (by first | omega | (simp; done) | (simp; omega)) _) hb3 (by first | omega | (simp; done) | (simp; omega))
  have hE3 : Rd w3 w1.heap.size E 1 1 (cIs [3]) := Rd.below (Rd.alloc (Rd.alloc hE2 (by first | omega | (simp; done) | (simp; omega)) _) (by first | omega | (simp; done) | (simp; omega)) _) hb3 (by first | omega | (simp; done) | (simp; omega))
  have o3c0 : w3.cell? ⟨w1.heap.size, 0, none⟩ = some (.slice A 4 c) := o3.cell 0
  have o3c1 : w3.cell? ⟨w1.heap.size, 1, none⟩ = some (.slice E 1 d) := o3.cell 1
  have o3l := o3.lt
  have lo3c0 : w3.cell? ⟨w2.heap.size, 0, none⟩ = some (.int .i64 0) := lo3.cell 0
  have lo3c1 : w3.cell? ⟨w2.heap.size, 1, none⟩ = some (.int .i64 0) := lo3.cell 1
  have lo3c2 : w3.cell? ⟨w2.heap.size, 2, none⟩ = some (.bool false) := lo3.cell 2
  have lo3l := lo3.lt
  have hi3c0 : w3.cell? ⟨(w2.heap.size + 1), 0, none⟩ = some (.int .i64 4) := hi3.cell 0
  have hi3c1 : w3.cell? ⟨(w2.heap.size + 1), 1, none⟩ = some (.int .i64 4) := hi3.cell 1
  have hi3c2 : w3.cell? ⟨(w2.heap.size + 1), 2, none⟩ = some (.bool false) := hi3.cell 2
  have hi3l := hi3.lt
  go_wp2_with fail
  refine (reversed_ok _ w1.heap.size A E 4 c 1 d sq [3] (by exact (hA3.alloc (by omega) _).alloc (by simp; omega) _) (by exact (hE3.alloc (by omega) _).alloc (by simp; omega) _) (by simp; omega) (by omega) (by omega)).mono ?_
  rintro e w4 ⟨A4, n4, c4, E4, m4, d4, rfl, ⟨hcap4, hcap5⟩, hA4r, hE4r, hb4⟩
  rw [sq_rev] at hA4r
  obtain rfl : 4 = n4 := hA4r.len3
  obtain rfl : 1 = m4 := hE4r.lenI
  clear o3c0 o3c1 o3l lo3c0 lo3c1 lo3c2 lo3l hi3c0 hi3c1 hi3c2 hi3l
  have hs4 := hb4.size
  simp only [World.size_alloc] at hs4
  have o4 : Bk w4 w1.heap.size 25 #[.slice A 4 c, .slice E 1 d] := (hb4.block _ (by have := o3.lt; first | omega | (simp; omega))).trans ((o3.alloc _).alloc _)
  have lo4 : Bk w4 w2.heap.size 40 #[.int .i64 0, .int .i64 0, .bool false] := (hb4.block _ (by have := lo3.lt; first | omega | (simp; omega))).trans ((lo3.alloc _).alloc _)
  have hi4 : Bk w4 (w2.heap.size + 1) 40 #[.int .i64 4, .int .i64 4, .bool false] := (hb4.block _ (by have := hi3.lt; first | omega | (simp; omega))).trans ((hi3.alloc _).alloc _)
  have hA4 : Rd w4 w1.heap.size A 4 3 (c3s sq) := Rd.below (Rd.alloc (Rd.alloc hA3 (by first | omega | (simp; done) | (simp; omega)) _) (by first | omega | (simp; done) | (simp; omega)) _) hb4 (by first | omega | (simp; done) | (simp; omega))
  have hE4 : Rd w4 w1.heap.size E 1 1 (cIs [3]) := Rd.below (Rd.alloc (Rd.alloc hE3 (by first | omega | (simp; done) | (simp; omega)) _) (by first | omega | (simp; done) | (simp; omega)) _) hb4 (by first | omega | (simp; done) | (simp; omega))
  have o4c0 : w4.cell? ⟨w1.heap.size, 0, none⟩ = some (.slice A 4 c) := o4.cell 0
  have o4c1 : w4.cell? ⟨w1.heap.size, 1, none⟩ = some (.slice E 1 d) := o4.cell 1
  have o4l := o4.lt
  have lo4c0 : w4.cell? ⟨w2.heap.size, 0, none⟩ = some (.int .i64 0) := lo4.cell 0
  have lo4c1 : w4.cell? ⟨w2.heap.size, 1, none⟩ = some (.int .i64 0) := lo4.cell 1
  have lo4c2 : w4.cell? ⟨w2.heap.size, 2, none⟩ = some (.bool false) := lo4.cell 2
  have lo4l := lo4.lt
  have hi4c0 : w4.cell? ⟨(w2.heap.size + 1), 0, none⟩ = some (.int .i64 4) := hi4.cell 0
  have hi4c1 : w4.cell? ⟨(w2.heap.size + 1), 1, none⟩ = some (.int .i64 4) := hi4.cell 1
  have hi4c2 : w4.cell? ⟨(w2.heap.size + 1), 2, none⟩ = some (.bool false) := hi4.cell 2
  have hi4l := hi4.lt
  go_wp2_with fail
  refine (moved_ok _ w1.heap.size A E 4 c 1 d sq [3] 1 2 (by exact (hA4.alloc (by omega) _)) (by exact (hE4.alloc (by omega) _)) (by simp; omega) (by omega) (by omega)).mono ?_
  rintro e w5 ⟨A5, n5, c5, E5, m5, d5, rfl, -, hA5r, hE5r, hb5⟩
  rw [sq_mov] at hA5r
  obtain rfl : 4 = n5 := hA5r.len3
  obtain rfl : 1 = m5 := hE5r.lenI
  clear o4c0 o4c1 o4l lo4c0 lo4c1 lo4c2 lo4l hi4c0 hi4c1 hi4c2 hi4l
  have hs5 := hb5.size
  simp only [World.size_alloc] at hs5
  have o5 : Bk w5 w1.heap.size 25 #[.slice A 4 c, .slice E 1 d] := (hb5.block _ (by have := o4.lt; first | omega | (simp; omega))).trans (o4.alloc _)
  have lo5 : Bk w5 w2.heap.size 40 #[.int .i64 0, .int .i64 0, .bool false] := (hb5.block _ (by have := lo4.lt; first | omega | (simp; omega))).trans (lo4.alloc _)
  have hi5 : Bk w5 (w2.heap.size + 1) 40 #[.int .i64 4, .int .i64 4, .bool false] := (hb5.block _ (by have := hi4.lt; first | omega | (simp; omega))).trans (hi4.alloc _)
  have r5 : Bk w5 w4.heap.size 25 #[.slice A4 4 c4, .slice E4 1 d4] := (hb5.block _ (by first | omega | (simp; done) | (simp; omega))).trans (Bk.newAt _ w4.heap.size (by simp) 25 #[.slice A4 4 c4, .slice E4 1 d4])
  have hA5 : Rd w5 w1.heap.size A 4 3 (c3s sq) := Rd.below (Rd.alloc hA4 (by first | omega | (simp; done) | (simp; omega)) _) hb5 (by first | omega | (simp; done) | (simp; omega))
  have hE5 : Rd w5 w1.heap.size E 1 1 (cIs [3]) := Rd.below (Rd.alloc hE4 (by first | omega | (simp; done) | (simp; omega)) _) hb5 (by first | omega | (simp; done) | (simp; omega))
  have rA5 : Rd w5 w4.heap.size A4 4 3 (c3s sqR) := Rd.below (Rd.alloc hA4r (by first | omega | (simp; done) | (simp; omega)) _) hb5 (by first | omega | (simp; done) | (simp; omega))
  have rE5 : Rd w5 w4.heap.size E4 1 1 (cIs [3]) := Rd.below (Rd.alloc hE4r (by first | omega | (simp; done) | (simp; omega)) _) hb5 (by first | omega | (simp; done) | (simp; omega))
  have o5c0 : w5.cell? ⟨w1.heap.size, 0, none⟩ = some (.slice A 4 c) := o5.cell 0
  have o5c1 : w5.cell? ⟨w1.heap.size, 1, none⟩ = some (.slice E 1 d) := o5.cell 1
  have o5l := o5.lt
  have lo5c0 : w5.cell? ⟨w2.heap.size, 0, none⟩ = some (.int .i64 0) := lo5.cell 0
  have lo5c1 : w5.cell? ⟨w2.heap.size, 1, none⟩ = some (.int .i64 0) := lo5.cell 1
  have lo5c2 : w5.cell? ⟨w2.heap.size, 2, none⟩ = some (.bool false) := lo5.cell 2
  have lo5l := lo5.lt
  have hi5c0 : w5.cell? ⟨(w2.heap.size + 1), 0, none⟩ = some (.int .i64 4) := hi5.cell 0
  have hi5c1 : w5.cell? ⟨(w2.heap.size + 1), 1, none⟩ = some (.int .i64 4) := hi5.cell 1
  have hi5c2 : w5.cell? ⟨(w2.heap.size + 1), 2, none⟩ = some (.bool false) := hi5.cell 2
  have hi5l := hi5.lt
  have r5c0 : w5.cell? ⟨w4.heap.size, 0, none⟩ = some (.slice A4 4 c4) := r5.cell 0
  have r5c1 : w5.cell? ⟨w4.heap.size, 1, none⟩ = some (.slice E4 1 d4) := r5.cell 1
  have r5l := r5.lt
  go_wp2_with fail
  refine (lines_ok _ (w5.heap.size + 1 + 1 + 1 + 1) _ _ _ 3 3 3 1 1 [(0, 0), (64, 0), (64, 64)] [true, false, true] [2] (by exact (((Rd.newAt _ (w5.heap.size + 1) (by simp) #[.int .i64 0, .int .i64 0, .int .i64 64, .int .i64 0, .int .i64 64, .int .i64 64] 47 3 2 rfl).alloc (by first | omega | (simp; done) | (simp; omega)) _).alloc (by first | omega | (simp; done) | (simp; omega)) _).mono (by omega)) (by exact ((Rd.newAt _ (w5.heap.size + 1 + 1) (by simp) #[.bool true, .bool false, .bool true] 4 3 1 rfl).alloc (by first | omega | (simp; done) | (simp; omega)) _).mono (by omega)) (by exact (Rd.newAt _ (w5.heap.size + 1 + 1 + 1) (by simp) #[.int .i64 2] 3 1 1 rfl)) (by simp) (by omega) (by omega)).mono ?_
  rintro e w6 ⟨v6, hs6, rfl, hv6, hrows6, hb6⟩
  rw [cv_lines] at hrows6
  obtain ⟨A6, k6, c6, hh6, hr6⟩ := hrows6.2 0 cv rfl
  have hl6 : hs6 = [.slice A6 k6 c6] := by
    have h1 := hrows6.1
    match hs6, h1 with
    | [x], _ => simpa using hh6
  subst hl6
  obtain rfl : 9 = k6 := hr6.rd.len2
  obtain ⟨g6, cap6, rfl, hg6, hgl6⟩ := hv6.form (by simp)
  obtain ⟨AA6, cc6, hvv6, hlr⟩ := Rd.of_own hv6
  simp only [Value.slice.injEq, true_and] at hvv6
  obtain ⟨rfl, rfl⟩ := hvv6
  have hcv := hr6.rd
  simp only [List.length_cons, List.length_nil, Nat.zero_add] at hlr ⊢
  clear o5c0 o5c1 o5l lo5c0 lo5c1 lo5c2 lo5l hi5c0 hi5c1 hi5c2 hi5l r5c0 r5c1 r5l
  have hs6 := hb6.size
  simp only [World.size_alloc] at hs6
  have o6 : Bk w6 w1.heap.size 25 #[.slice A 4 c, .slice E 1 d] := (hb6.block _ (by have := o5.lt; first | omega | (simp; omega))).trans ((((o5.alloc _).alloc _).alloc _).alloc _)
  have lo6 : Bk w6 w2.heap.size 40 #[.int .i64 0, .int .i64 0, .bool false] := (hb6.block _ (by have := lo5.lt; first | omega | (simp; omega))).trans ((((lo5.alloc _).alloc _).alloc _).alloc _)
  have hi6 : Bk w6 (w2.heap.size + 1) 40 #[.int .i64 4, .int .i64 4, .bool false] := (hb6.block _ (by have := hi5.lt; first | omega | (simp; omega))).trans ((((hi5.alloc _).alloc _).alloc _).alloc _)
  have r6 : Bk w6 w4.heap.size 25 #[.slice A4 4 c4, .slice E4 1 d4] := (hb6.block _ (by have := r5.lt; first | omega | (simp; omega))).trans ((((r5.alloc _).alloc _).alloc _).alloc _)
  have mm6 : Bk w6 w5.heap.size 25 #[.slice A5 4 c5, .slice E5 1 d5] := (hb6.block _ (by first | omega | (simp; done) | (simp; omega))).trans ((((Bk.newAt _ w5.heap.size (by simp) 25 #[.slice A5 4 c5, .slice E5 1 d5]).alloc _).alloc _).alloc _)
  have hA6 : Rd w6 w1.heap.size A 4 3 (c3s sq) := Rd.below (Rd.alloc (Rd.alloc (Rd.alloc (Rd.alloc hA5 (by first | omega | (simp; done) | (simp; omega)) _) (by first | omega | (simp; done) | (simp; omega)) _) (by first | omega | (simp; done) | (simp; omega)) _) (by first | omega | (simp; done) | (simp; omega)) _) hb6 (by first | omega | (simp; done) | (simp; omega))
  have hE6 : Rd w6 w1.heap.size E 1 1 (cIs [3]) := Rd.below (Rd.alloc (Rd.alloc (Rd.alloc (Rd.alloc hE5 (by first | omega | (simp; done) | (simp; omega)) _) (by first | omega | (simp; done) | (simp; omega)) _) (by first | omega | (simp; done) | (simp; omega)) _) (by first | omega | (simp; done) | (simp; omega)) _) hb6 (by first | omega | (simp; done) | (simp; omega))
  have rA6 : Rd w6 w4.heap.size A4 4 3 (c3s sqR) := Rd.below (Rd.alloc (Rd.alloc (Rd.alloc (Rd.alloc rA5 (by first | omega | (simp; done) | (simp; omega)) _) (by first | omega | (simp; done) | (simp; omega)) _) (by first | omega | (simp; done) | (simp; omega)) _) (by first | omega | (simp; done) | (simp; omega)) _) hb6 (by first | omega | (simp; done) | (simp; omega))
  have rE6 : Rd w6 w4.heap.size E4 1 1 (cIs [3]) := Rd.below (Rd.alloc (Rd.alloc (Rd.alloc (Rd.alloc rE5 (by first | omega | (simp; done) | (simp; omega)) _) (by first | omega | (simp; done) | (simp; omega)) _) (by first | omega | (simp; done) | (simp; omega)) _) (by first | omega | (simp; done) | (simp; omega)) _) hb6 (by first | omega | (simp; done) | (simp; omega))
  have mA6 : Rd w6 w5.heap.size A5 4 3 (c3s sqM) := Rd.below (Rd.alloc (Rd.alloc (Rd.alloc (Rd.alloc hA5r (by first | omega | (simp; done) | (simp; omega)) _) (by first | omega | (simp; done) | (simp; omega)) _) (by first | omega | (simp; done) | (simp; omega)) _) (by first | omega | (simp; done) | (simp; omega)) _) hb6 (by first | omega | (simp; done) | (simp; omega))
  have o6c0 : w6.cell? ⟨w1.heap.size, 0, none⟩ = some (.slice A 4 c) := o6.cell 0
  have o6c1 : w6.cell? ⟨w1.heap.size, 1, none⟩ = some (.slice E 1 d) := o6.cell 1
  have o6l := o6.lt
  have lo6c0 : w6.cell? ⟨w2.heap.size, 0, none⟩ = some (.int .i64 0) := lo6.cell 0
  have lo6c1 : w6.cell? ⟨w2.heap.size, 1, none⟩ = some (.int .i64 0) := lo6.cell 1
  have lo6c2 : w6.cell? ⟨w2.heap.size, 2, none⟩ = some (.bool false) := lo6.cell 2
  have lo6l := lo6.lt
  have hi6c0 : w6.cell? ⟨(w2.heap.size + 1), 0, none⟩ = some (.int .i64 4) := hi6.cell 0
  have hi6c1 : w6.cell? ⟨(w2.heap.size + 1), 1, none⟩ = some (.int .i64 4) := hi6.cell 1
  have hi6c2 : w6.cell? ⟨(w2.heap.size + 1), 2, none⟩ = some (.bool false) := hi6.cell 2
  have hi6l := hi6.lt
  have r6c0 : w6.cell? ⟨w4.heap.size, 0, none⟩ = some (.slice A4 4 c4) := r6.cell 0
  have r6c1 : w6.cell? ⟨w4.heap.size, 1, none⟩ = some (.slice E4 1 d4) := r6.cell 1
  have r6l := r6.lt
  have mm6c0 : w6.cell? ⟨w5.heap.size, 0, none⟩ = some (.slice A5 4 c5) := mm6.cell 0
  have mm6c1 : w6.cell? ⟨w5.heap.size, 1, none⟩ = some (.slice E5 1 d5) := mm6.cell 1
  have mm6l := mm6.lt
  go_wp2_with fail
  refine (right_ok _ w1.heap.size A E 4 c 1 d sq [3] (hA6.alloc (by omega) _) (hE6.alloc (by omega) _) (by simp; omega) (by omega)).mono ?_
  rintro e w7 ⟨rfl, hb7⟩
  rw [sq_right]
  clear o6c0 o6c1 o6l lo6c0 lo6c1 lo6c2 lo6l hi6c0 hi6c1 hi6c2 hi6l r6c0 r6c1 r6l mm6c0 mm6c1 mm6l
  have hs7 := hb7.size
  simp only [World.size_alloc] at hs7
  have o7 : Bk w7 w1.heap.size 25 #[.slice A 4 c, .slice E 1 d] := (hb7.block _ (by have := o6.lt; first | omega | (simp; omega))).trans (o6.alloc _)
  have lo7 : Bk w7 w2.heap.size 40 #[.int .i64 0, .int .i64 0, .bool false] := (hb7.block _ (by have := lo6.lt; first | omega | (simp; omega))).trans (lo6.alloc _)
  have hi7 : Bk w7 (w2.heap.size + 1) 40 #[.int .i64 4, .int .i64 4, .bool false] := (hb7.block _ (by have := hi6.lt; first | omega | (simp; omega))).trans (hi6.alloc _)
  have r7 : Bk w7 w4.heap.size 25 #[.slice A4 4 c4, .slice E4 1 d4] := (hb7.block _ (by have := r6.lt; first | omega | (simp; omega))).trans (r6.alloc _)
  have mm7 : Bk w7 w5.heap.size 25 #[.slice A5 4 c5, .slice E5 1 d5] := (hb7.block _ (by have := mm6.lt; first | omega | (simp; omega))).trans (mm6.alloc _)
  have wt7 : Bk w7 w6.heap.size 47 #[.int .i64 0, .int .i64 0, .int .i64 15, .int .i64 1, .int .i64 28, .int .i64 4, .int .i64 39, .int .i64 9, .int .i64 48, .int .i64 16, .int .i64 55, .int .i64 25, .int .i64 60, .int .i64 36, .int .i64 63, .int .i64 49, .int .i64 64, .int .i64 64] := (hb7.block _ (by first | omega | (simp; done) | (simp; omega))).trans (Bk.newAt _ w6.heap.size (by simp) 47 #[.int .i64 0, .int .i64 0, .int .i64 15, .int .i64 1, .int .i64 28, .int .i64 4, .int .i64 39, .int .i64 9, .int .i64 48, .int .i64 16, .int .i64 55, .int .i64 25, .int .i64 60, .int .i64 36, .int .i64 63, .int .i64 49, .int .i64 64, .int .i64 64])
  have hA7 : Rd w7 w1.heap.size A 4 3 (c3s sq) := Rd.below (Rd.alloc hA6 (by first | omega | (simp; done) | (simp; omega)) _) hb7 (by first | omega | (simp; done) | (simp; omega))
  have hE7 : Rd w7 w1.heap.size E 1 1 (cIs [3]) := Rd.below (Rd.alloc hE6 (by first | omega | (simp; done) | (simp; omega)) _) hb7 (by first | omega | (simp; done) | (simp; omega))
  have rA7 : Rd w7 w4.heap.size A4 4 3 (c3s sqR) := Rd.below (Rd.alloc rA6 (by first | omega | (simp; done) | (simp; omega)) _) hb7 (by first | omega | (simp; done) | (simp; omega))
  have rE7 : Rd w7 w4.heap.size E4 1 1 (cIs [3]) := Rd.below (Rd.alloc rE6 (by first | omega | (simp; done) | (simp; omega)) _) hb7 (by first | omega | (simp; done) | (simp; omega))
  have mA7 : Rd w7 w5.heap.size A5 4 3 (c3s sqM) := Rd.below (Rd.alloc mA6 (by first | omega | (simp; done) | (simp; omega)) _) hb7 (by first | omega | (simp; done) | (simp; omega))
  have lr7 : Rd w7 w6.heap.size (some ⟨g6, 0, none⟩) 1 1 [.slice A6 9 c6] := Rd.below (Rd.alloc hlr (by first | omega | (simp; done) | (simp; omega)) _) hb7 (by first | omega | (simp; done) | (simp; omega))
  have lc7 : Rd w7 w6.heap.size A6 9 2 (c2s cv) := Rd.below (Rd.alloc hcv (by first | omega | (simp; done) | (simp; omega)) _) hb7 (by first | omega | (simp; done) | (simp; omega))
  have o7c0 : w7.cell? ⟨w1.heap.size, 0, none⟩ = some (.slice A 4 c) := o7.cell 0
  have o7c1 : w7.cell? ⟨w1.heap.size, 1, none⟩ = some (.slice E 1 d) := o7.cell 1
  have o7l := o7.lt
  have lo7c0 : w7.cell? ⟨w2.heap.size, 0, none⟩ = some (.int .i64 0) := lo7.cell 0
  have lo7c1 : w7.cell? ⟨w2.heap.size, 1, none⟩ = some (.int .i64 0) := lo7.cell 1
  have lo7c2 : w7.cell? ⟨w2.heap.size, 2, none⟩ = some (.bool false) := lo7.cell 2
  have lo7l := lo7.lt
  have hi7c0 : w7.cell? ⟨(w2.heap.size + 1), 0, none⟩ = some (.int .i64 4) := hi7.cell 0
  have hi7c1 : w7.cell? ⟨(w2.heap.size + 1), 1, none⟩ = some (.int .i64 4) := hi7.cell 1
  have hi7c2 : w7.cell? ⟨(w2.heap.size + 1), 2, none⟩ = some (.bool false) := hi7.cell 2
  have hi7l := hi7.lt
  have r7c0 : w7.cell? ⟨w4.heap.size, 0, none⟩ = some (.slice A4 4 c4) := r7.cell 0
  have r7c1 : w7.cell? ⟨w4.heap.size, 1, none⟩ = some (.slice E4 1 d4) := r7.cell 1
  have r7l := r7.lt
  have mm7c0 : w7.cell? ⟨w5.heap.size, 0, none⟩ = some (.slice A5 4 c5) := mm7.cell 0
  have mm7c1 : w7.cell? ⟨w5.heap.size, 1, none⟩ = some (.slice E5 1 d5) := mm7.cell 1
  have mm7l := mm7.lt
  go_wp2_with fail
  refine (right_ok _ (w7.heap.size + 1) none _ 0 0 1 1 [] [0] (Rd.nil _ _ _ _) (by exact Rd.newAt w7 w7.heap.size rfl #[.int .i64 0] 3 1 1 rfl) (by simp) (by omega)).mono ?_
  rintro e w8 ⟨rfl, hb8⟩
  rw [no_right]
  clear o7c0 o7c1 o7l lo7c0 lo7c1 lo7c2 lo7l hi7c0 hi7c1 hi7c2 hi7l r7c0 r7c1 r7l mm7c0 mm7c1 mm7l
  have hs8 := hb8.size
  simp only [World.size_alloc] at hs8
  have o8 : Bk w8 w1.heap.size 25 #[.slice A 4 c, .slice E 1 d] := (hb8.block _ (by have := o7.lt; first | omega | (simp; omega))).trans (o7.alloc _)
  have lo8 : Bk w8 w2.heap.size 40 #[.int .i64 0, .int .i64 0, .bool false] := (hb8.block _ (by have := lo7.lt; first | omega | (simp; omega))).trans (lo7.alloc _)
  have hi8 : Bk w8 (w2.heap.size + 1) 40 #[.int .i64 4, .int .i64 4, .bool false] := (hb8.block _ (by have := hi7.lt; first | omega | (simp; omega))).trans (hi7.alloc _)
  have r8 : Bk w8 w4.heap.size 25 #[.slice A4 4 c4, .slice E4 1 d4] := (hb8.block _ (by have := r7.lt; first | omega | (simp; omega))).trans (r7.alloc _)
  have mm8 : Bk w8 w5.heap.size 25 #[.slice A5 4 c5, .slice E5 1 d5] := (hb8.block _ (by have := mm7.lt; first | omega | (simp; omega))).trans (mm7.alloc _)
  have wt8 : Bk w8 w6.heap.size 47 #[.int .i64 0, .int .i64 0, .int .i64 15, .int .i64 1, .int .i64 28, .int .i64 4, .int .i64 39, .int .i64 9, .int .i64 48, .int .i64 16, .int .i64 55, .int .i64 25, .int .i64 60, .int .i64 36, .int .i64 63, .int .i64 49, .int .i64 64, .int .i64 64] := (hb8.block _ (by have := wt7.lt; first | omega | (simp; omega))).trans (wt7.alloc _)
  have hA8 : Rd w8 w1.heap.size A 4 3 (c3s sq) := Rd.below (Rd.alloc hA7 (by first | omega | (simp; done) | (simp; omega)) _) hb8 (by first | omega | (simp; done) | (simp; omega))
  have hE8 : Rd w8 w1.heap.size E 1 1 (cIs [3]) := Rd.below (Rd.alloc hE7 (by first | omega | (simp; done) | (simp; omega)) _) hb8 (by first | omega | (simp; done) | (simp; omega))
  have rA8 : Rd w8 w4.heap.size A4 4 3 (c3s sqR) := Rd.below (Rd.alloc rA7 (by first | omega | (simp; done) | (simp; omega)) _) hb8 (by first | omega | (simp; done) | (simp; omega))
  have rE8 : Rd w8 w4.heap.size E4 1 1 (cIs [3]) := Rd.below (Rd.alloc rE7 (by first | omega | (simp; done) | (simp; omega)) _) hb8 (by first | omega | (simp; done) | (simp; omega))
  have mA8 : Rd w8 w5.heap.size A5 4 3 (c3s sqM) := Rd.below (Rd.alloc mA7 (by first | omega | (simp; done) | (simp; omega)) _) hb8 (by first | omega | (simp; done) | (simp; omega))
  have lr8 : Rd w8 w6.heap.size (some ⟨g6, 0, none⟩) 1 1 [.slice A6 9 c6] := Rd.below (Rd.alloc lr7 (by first | omega | (simp; done) | (simp; omega)) _) hb8 (by first | omega | (simp; done) | (simp; omega))
  have lc8 : Rd w8 w6.heap.size A6 9 2 (c2s cv) := Rd.below (Rd.alloc lc7 (by first | omega | (simp; done) | (simp; omega)) _) hb8 (by first | omega | (simp; done) | (simp; omega))
  have o8c0 : w8.cell? ⟨w1.heap.size, 0, none⟩ = some (.slice A 4 c) := o8.cell 0
  have o8c1 : w8.cell? ⟨w1.heap.size, 1, none⟩ = some (.slice E 1 d) := o8.cell 1
  have o8l := o8.lt
  have lo8c0 : w8.cell? ⟨w2.heap.size, 0, none⟩ = some (.int .i64 0) := lo8.cell 0
  have lo8c1 : w8.cell? ⟨w2.heap.size, 1, none⟩ = some (.int .i64 0) := lo8.cell 1
  have lo8c2 : w8.cell? ⟨w2.heap.size, 2, none⟩ = some (.bool false) := lo8.cell 2
  have lo8l := lo8.lt
  have hi8c0 : w8.cell? ⟨(w2.heap.size + 1), 0, none⟩ = some (.int .i64 4) := hi8.cell 0
  have hi8c1 : w8.cell? ⟨(w2.heap.size + 1), 1, none⟩ = some (.int .i64 4) := hi8.cell 1
  have hi8c2 : w8.cell? ⟨(w2.heap.size + 1), 2, none⟩ = some (.bool false) := hi8.cell 2
  have hi8l := hi8.lt
  have r8c0 : w8.cell? ⟨w4.heap.size, 0, none⟩ = some (.slice A4 4 c4) := r8.cell 0
  have r8c1 : w8.cell? ⟨w4.heap.size, 1, none⟩ = some (.slice E4 1 d4) := r8.cell 1
  have r8l := r8.lt
  have mm8c0 : w8.cell? ⟨w5.heap.size, 0, none⟩ = some (.slice A5 4 c5) := mm8.cell 0
  have mm8c1 : w8.cell? ⟨w5.heap.size, 1, none⟩ = some (.slice E5 1 d5) := mm8.cell 1
  have mm8l := mm8.lt
  go_wp2_with fail
  refine (area_ok _ w1.heap.size A E 4 c 1 d sq [3] hA8 hE8 (by omega) hcap hcap2 (by omega)).mono ?_
  rintro e w9 ⟨rfl, hb9⟩
  rw [sq_area]
  clear o8c0 o8c1 o8l lo8c0 lo8c1 lo8c2 lo8l hi8c0 hi8c1 hi8c2 hi8l r8c0 r8c1 r8l mm8c0 mm8c1 mm8l
  have hs9 := hb9.size
  have o9 : Bk w9 w1.heap.size 25 #[.slice A 4 c, .slice E 1 d] := (hb9.block _ (by have := o8.lt; first | omega | (simp; omega))).trans o8
  have lo9 : Bk w9 w2.heap.size 40 #[.int .i64 0, .int .i64 0, .bool false] := (hb9.block _ (by have := lo8.lt; first | omega | (simp; omega))).trans lo8
  have hi9 : Bk w9 (w2.heap.size + 1) 40 #[.int .i64 4, .int .i64 4, .bool false] := (hb9.block _ (by have := hi8.lt; first | omega | (simp; omega))).trans hi8
  have r9 : Bk w9 w4.heap.size 25 #[.slice A4 4 c4, .slice E4 1 d4] := (hb9.block _ (by have := r8.lt; first | omega | (simp; omega))).trans r8
  have mm9 : Bk w9 w5.heap.size 25 #[.slice A5 4 c5, .slice E5 1 d5] := (hb9.block _ (by have := mm8.lt; first | omega | (simp; omega))).trans mm8
  have wt9 : Bk w9 w6.heap.size 47 #[.int .i64 0, .int .i64 0, .int .i64 15, .int .i64 1, .int .i64 28, .int .i64 4, .int .i64 39, .int .i64 9, .int .i64 48, .int .i64 16, .int .i64 55, .int .i64 25, .int .i64 60, .int .i64 36, .int .i64 63, .int .i64 49, .int .i64 64, .int .i64 64] := (hb9.block _ (by have := wt8.lt; first | omega | (simp; omega))).trans wt8
  have hA9 : Rd w9 w1.heap.size A 4 3 (c3s sq) := Rd.below hA8 hb9 (by first | omega | (simp; done) | (simp; omega))
  have hE9 : Rd w9 w1.heap.size E 1 1 (cIs [3]) := Rd.below hE8 hb9 (by first | omega | (simp; done) | (simp; omega))
  have rA9 : Rd w9 w4.heap.size A4 4 3 (c3s sqR) := Rd.below rA8 hb9 (by first | omega | (simp; done) | (simp; omega))
  have rE9 : Rd w9 w4.heap.size E4 1 1 (cIs [3]) := Rd.below rE8 hb9 (by first | omega | (simp; done) | (simp; omega))
  have mA9 : Rd w9 w5.heap.size A5 4 3 (c3s sqM) := Rd.below mA8 hb9 (by first | omega | (simp; done) | (simp; omega))
  have lr9 : Rd w9 w6.heap.size (some ⟨g6, 0, none⟩) 1 1 [.slice A6 9 c6] := Rd.below lr8 hb9 (by first | omega | (simp; done) | (simp; omega))
  have lc9 : Rd w9 w6.heap.size A6 9 2 (c2s cv) := Rd.below lc8 hb9 (by first | omega | (simp; done) | (simp; omega))
  have o9c0 : w9.cell? ⟨w1.heap.size, 0, none⟩ = some (.slice A 4 c) := o9.cell 0
  have o9c1 : w9.cell? ⟨w1.heap.size, 1, none⟩ = some (.slice E 1 d) := o9.cell 1
  have o9l := o9.lt
  have lo9c0 : w9.cell? ⟨w2.heap.size, 0, none⟩ = some (.int .i64 0) := lo9.cell 0
  have lo9c1 : w9.cell? ⟨w2.heap.size, 1, none⟩ = some (.int .i64 0) := lo9.cell 1
  have lo9c2 : w9.cell? ⟨w2.heap.size, 2, none⟩ = some (.bool false) := lo9.cell 2
  have lo9l := lo9.lt
  have hi9c0 : w9.cell? ⟨(w2.heap.size + 1), 0, none⟩ = some (.int .i64 4) := hi9.cell 0
  have hi9c1 : w9.cell? ⟨(w2.heap.size + 1), 1, none⟩ = some (.int .i64 4) := hi9.cell 1
  have hi9c2 : w9.cell? ⟨(w2.heap.size + 1), 2, none⟩ = some (.bool false) := hi9.cell 2
  have hi9l := hi9.lt
  have r9c0 : w9.cell? ⟨w4.heap.size, 0, none⟩ = some (.slice A4 4 c4) := r9.cell 0
  have r9c1 : w9.cell? ⟨w4.heap.size, 1, none⟩ = some (.slice E4 1 d4) := r9.cell 1
  have r9l := r9.lt
  have mm9c0 : w9.cell? ⟨w5.heap.size, 0, none⟩ = some (.slice A5 4 c5) := mm9.cell 0
  have mm9c1 : w9.cell? ⟨w5.heap.size, 1, none⟩ = some (.slice E5 1 d5) := mm9.cell 1
  have mm9l := mm9.lt
  go_wp2_with fail
  refine (area_ok _ w4.heap.size A4 E4 4 c4 1 d4 sqR [3] rA9 rE9 (by omega) hcap4 hcap5 (by omega)).mono ?_
  rintro e w10 ⟨rfl, hb10⟩
  rw [sqR_area]
  clear o9c0 o9c1 o9l lo9c0 lo9c1 lo9c2 lo9l hi9c0 hi9c1 hi9c2 hi9l r9c0 r9c1 r9l mm9c0 mm9c1 mm9l
  have hs10 := hb10.size
  have o10 : Bk w10 w1.heap.size 25 #[.slice A 4 c, .slice E 1 d] := (hb10.block _ (by have := o9.lt; first | omega | (simp; omega))).trans o9
  have lo10 : Bk w10 w2.heap.size 40 #[.int .i64 0, .int .i64 0, .bool false] := (hb10.block _ (by have := lo9.lt; first | omega | (simp; omega))).trans lo9
  have hi10 : Bk w10 (w2.heap.size + 1) 40 #[.int .i64 4, .int .i64 4, .bool false] := (hb10.block _ (by have := hi9.lt; first | omega | (simp; omega))).trans hi9
  have r10 : Bk w10 w4.heap.size 25 #[.slice A4 4 c4, .slice E4 1 d4] := (hb10.block _ (by have := r9.lt; first | omega | (simp; omega))).trans r9
  have mm10 : Bk w10 w5.heap.size 25 #[.slice A5 4 c5, .slice E5 1 d5] := (hb10.block _ (by have := mm9.lt; first | omega | (simp; omega))).trans mm9
  have wt10 : Bk w10 w6.heap.size 47 #[.int .i64 0, .int .i64 0, .int .i64 15, .int .i64 1, .int .i64 28, .int .i64 4, .int .i64 39, .int .i64 9, .int .i64 48, .int .i64 16, .int .i64 55, .int .i64 25, .int .i64 60, .int .i64 36, .int .i64 63, .int .i64 49, .int .i64 64, .int .i64 64] := (hb10.block _ (by have := wt9.lt; first | omega | (simp; omega))).trans wt9
  have hA10 : Rd w10 w1.heap.size A 4 3 (c3s sq) := Rd.below hA9 hb10 (by first | omega | (simp; done) | (simp; omega))
  have hE10 : Rd w10 w1.heap.size E 1 1 (cIs [3]) := Rd.below hE9 hb10 (by first | omega | (simp; done) | (simp; omega))
  have rA10 : Rd w10 w4.heap.size A4 4 3 (c3s sqR) := Rd.below rA9 hb10 (by first | omega | (simp; done) | (simp; omega))
  have rE10 : Rd w10 w4.heap.size E4 1 1 (cIs [3]) := Rd.below rE9 hb10 (by first | omega | (simp; done) | (simp; omega))
  have mA10 : Rd w10 w5.heap.size A5 4 3 (c3s sqM) := Rd.below mA9 hb10 (by first | omega | (simp; done) | (simp; omega))
  have lr10 : Rd w10 w6.heap.size (some ⟨g6, 0, none⟩) 1 1 [.slice A6 9 c6] := Rd.below lr9 hb10 (by first | omega | (simp; done) | (simp; omega))
  have lc10 : Rd w10 w6.heap.size A6 9 2 (c2s cv) := Rd.below lc9 hb10 (by first | omega | (simp; done) | (simp; omega))
  have o10c0 : w10.cell? ⟨w1.heap.size, 0, none⟩ = some (.slice A 4 c) := o10.cell 0
  have o10c1 : w10.cell? ⟨w1.heap.size, 1, none⟩ = some (.slice E 1 d) := o10.cell 1
  have o10l := o10.lt
  have lo10c0 : w10.cell? ⟨w2.heap.size, 0, none⟩ = some (.int .i64 0) := lo10.cell 0
  have lo10c1 : w10.cell? ⟨w2.heap.size, 1, none⟩ = some (.int .i64 0) := lo10.cell 1
  have lo10c2 : w10.cell? ⟨w2.heap.size, 2, none⟩ = some (.bool false) := lo10.cell 2
  have lo10l := lo10.lt
  have hi10c0 : w10.cell? ⟨(w2.heap.size + 1), 0, none⟩ = some (.int .i64 4) := hi10.cell 0
  have hi10c1 : w10.cell? ⟨(w2.heap.size + 1), 1, none⟩ = some (.int .i64 4) := hi10.cell 1
  have hi10c2 : w10.cell? ⟨(w2.heap.size + 1), 2, none⟩ = some (.bool false) := hi10.cell 2
  have hi10l := hi10.lt
  have r10c0 : w10.cell? ⟨w4.heap.size, 0, none⟩ = some (.slice A4 4 c4) := r10.cell 0
  have r10c1 : w10.cell? ⟨w4.heap.size, 1, none⟩ = some (.slice E4 1 d4) := r10.cell 1
  have r10l := r10.lt
  have mm10c0 : w10.cell? ⟨w5.heap.size, 0, none⟩ = some (.slice A5 4 c5) := mm10.cell 0
  have mm10c1 : w10.cell? ⟨w5.heap.size, 1, none⟩ = some (.slice E5 1 d5) := mm10.cell 1
  have mm10l := mm10.lt
  obtain ⟨b4, o4, x4, y4, z4, rfl, hb4B, hp4, q41, q42, q43⟩ := rA10.at3 (k := 1) (by omega)
  obtain ⟨rfl, rfl, rfl⟩ : x4 = 0 ∧ y4 = 4 ∧ z4 = true := by have := hp4.out; simp [sqR] at this; exact ⟨this.1.symm, this.2.1.symm, this.2.2⟩
  obtain ⟨b5, o5, x5, y5, z5, rfl, hb5B, hp5, q51, q52, q53⟩ := mA10.at3 (k := 0) (by omega)
  obtain ⟨rfl, rfl, rfl⟩ : x5 = 1 ∧ y5 = 2 ∧ z5 = true := by have := hp5.out; simp [sqM] at this; exact ⟨this.1.symm, this.2.1.symm, this.2.2⟩
  simp only [Nat.one_mul, Nat.zero_mul, Nat.add_zero] at q41 q42 q43 q51 q52 q53
  obtain ⟨bg, og, eg6, hbg, hcg⟩ := lr10.2 (by omega)
  simp only [Option.some.injEq, Addr.mk.injEq, and_true] at eg6
  obtain ⟨rfl, rfl⟩ := eg6
  have hcg0 := hcg 0 _ rfl
  simp only [Nat.add_zero] at hcg0
  clear hcg hp4 hp5
  have hwt : Rd w10 w10.heap.size (some ⟨w6.heap.size, 0, none⟩) 9 2 (c2s cv) := ⟨rfl, fun _ => ⟨_, 0, rfl, wt10.lt, fun j u hu => by rw [wt10.cell, Nat.zero_add, ← Array.getElem?_toList]; exact hu⟩⟩
  go_wp2_with fail
  refine (samePts_eq _ w10.heap.size _ _ 9 _ _ cv (lc10.mono (by omega)) hwt (by omega)).mono ?_
  rintro e w11 ⟨rfl, kk, rfl⟩
  have bw1 : Below w.heap.size w w1 := hb1
  have bz2 := bw1.size
  have bw2 : Below w.heap.size w w2 := Below.trans (Below.alloc bw1 (by first | omega | (simp; done) | (simp; omega)) _) (hb2.mono (by first | omega | (simp; done) | (simp; omega)))
  have bz3 := bw2.size
  have bw3 : Below w.heap.size w w3 := Below.trans (Below.alloc (Below.alloc bw2 (by first | omega | (simp; done) | (simp; omega)) _) (by first | omega | (simp; done) | (simp; omega)) _) (hb3.mono (by first | omega | (simp; done) | (simp; omega)))
  have bz4 := bw3.size
  have bw4 : Below w.heap.size w w4 := Below.trans (Below.alloc (Below.alloc bw3 (by first | omega | (simp; done) | (simp; omega)) _) (by first | omega | (simp; done) | (simp; omega)) _) (hb4.mono (by first | omega | (simp; done) | (simp; omega)))
  have bz5 := bw4.size
  have bw5 : Below w.heap.size w w5 := Below.trans (Below.alloc bw4 (by first | omega | (simp; done) | (simp; omega)) _) (hb5.mono (by first | omega | (simp; done) | (simp; omega)))
  have bz6 := bw5.size
  have bw6 : Below w.heap.size w w6 := Below.trans (Below.alloc (Below.alloc (Below.alloc (Below.alloc bw5 (by first | omega | (simp; done) | (simp; omega)) _) (by first | omega | (simp; done) | (simp; omega)) _) (by first | omega | (simp; done) | (simp; omega)) _) (by first | omega | (simp; done) | (simp; omega)) _) (hb6.mono (by first | omega | (simp; done) | (simp; omega)))
  have bz7 := bw6.size
  have bw7 : Below w.heap.size w w7 := Below.trans (Below.alloc bw6 (by first | omega | (simp; done) | (simp; omega)) _) (hb7.mono (by first | omega | (simp; done) | (simp; omega)))
  have bz8 := bw7.size
  have bw8 : Below w.heap.size w w8 := Below.trans (Below.alloc bw7 (by first | omega | (simp; done) | (simp; omega)) _) (hb8.mono (by first | omega | (simp; done) | (simp; omega)))
  have bz9 := bw8.size
  have bw9 : Below w.heap.size w w9 := Below.trans bw8 (hb9.mono (by first | omega | (simp; done) | (simp; omega)))
  have bz10 := bw9.size
  have bw10 : Below w.heap.size w w10 := Below.trans bw9 (hb10.mono (by first | omega | (simp; done) | (simp; omega)))
  have HB := Lib.hid bw10
  clear bw2 bz2 bw3 bz3 bw4 bz4 bw5 bz5 bw6 bz6 bw7 bz7 bw8 bz8 bw9 bz9 bw10 bz10
  go_wp2
  go_ret
  exact ⟨by simp, below_drewN HB.out _⟩
end Go.Proofs.Ytfpdbdbgemolgaa
