/- The contract of outline.row. -/
import Derived.Deep.RegionLaw
import Derived.Test.YtfpdbdbgemolgaaBox
import Derived.Test.YtfpdbdbgemolgaaSmall
namespace Go.Proofs.Ytfpdbdbgemolgaa
open Go.RowKit

def at2 (p : P3) : P2 := (p.1, p.2.1)
def rowFrom (rg : List P3) : Nat → Nat → List P2
  | 0, _ => []
  | k + 1, i => if i < rg.length then
      match rg[i]?, rg[(i + 1) % rg.length]?, rg[(i + 2) % rg.length]? with
      | some a, some nx, some bh => if nx.2.2 = true then [at2 nx] ++ rowFrom rg k (i + 1) else (List.range 8).map (fun s => crv (at2 a) (at2 nx) (at2 bh) (s + 1)) ++ rowFrom rg k (i + 2)
      | _, _, _ => []
    else []
theorem rowFrom_fuel (rg : List P3) : ∀ (k k' i : Nat), rg.length ≤ i + k → rg.length ≤ i + k' → rowFrom rg k i = rowFrom rg k' i := by
  intro k
  induction k with
  | zero =>
    intro k' i h _
    cases k' with
    | zero => rfl
    | succ k' => simp only [rowFrom]; rw [if_neg (by omega)]
  | succ k ih =>
    intro k' i h h'
    cases k' with
    | zero => simp only [rowFrom]; rw [if_neg (by omega)]
    | succ k' =>
      simp only [rowFrom]
      by_cases hi : i < rg.length
      · rw [if_pos hi, if_pos hi]
        rw [ih k' (i + 1) (by omega) (by omega), ih k' (i + 2) (by omega) (by omega)]
      · rw [if_neg hi, if_neg hi]
theorem rowFrom_on (rg : List P3) (n i : Nat) (hn : rg.length = n) (hi : i < n) (a nx : P3) (ha : rg[i]? = some a) (hx : rg[(i + 1) % n]? = some nx) (hon : nx.2.2 = true) : rowFrom rg n i = [at2 nx] ++ rowFrom rg n (i + 1) := by
  obtain ⟨m, rfl⟩ : ∃ m, n = m + 1 := ⟨n - 1, by omega⟩
  obtain ⟨bh, hb⟩ : ∃ bh, rg[(i + 2) % (m + 1)]? = some bh := ⟨_, List.getElem?_eq_getElem (by rw [hn]; exact Nat.mod_lt _ (by omega))⟩
  rw [rowFrom, if_pos (by omega), ha, hn, hx, hb]
  simp only [hon, if_true]
  rw [rowFrom_fuel rg m (m + 1) (i + 1) (by omega) (by omega)]
theorem rowFrom_off (rg : List P3) (n i : Nat) (hn : rg.length = n) (hi : i < n) (a nx bh : P3) (ha : rg[i]? = some a) (hx : rg[(i + 1) % n]? = some nx) (hb : rg[(i + 2) % n]? = some bh) (hon : nx.2.2 = false) :
    rowFrom rg n i = (List.range 8).map (fun s => crv (at2 a) (at2 nx) (at2 bh) (s + 1)) ++ rowFrom rg n (i + 2) := by
  obtain ⟨m, rfl⟩ : ∃ m, n = m + 1 := ⟨n - 1, by omega⟩
  rw [rowFrom, if_pos (by omega), ha]
  rw [hn, hx, hb]
  simp only [hon]
  rw [if_neg (by simp), rowFrom_fuel rg m (m + 1) (i + 2) (by omega) (by omega)]
def rowT (rg : List P3) : List P2 := match rg[0]? with
  | some p => [at2 p] ++ rowFrom rg rg.length 0
  | none => []
def rowL (rg : List P3) : List P2 := (rowT rg).dropLast

/-- a slice that reads as cs, in a block of elements of type t -/
def RdT (w : World) (t : TypeId) (A : Option Addr) (n size : Nat) (cs : List Value) : Prop :=
  cs.length = n * size ∧ (0 < n → ∃ b o cur, A = some ⟨b, o, none⟩ ∧ Bk w b t cur ∧ ∀ j u, cs[j]? = some u → cur[o + j]? = some u)
theorem RdT.rd {w : World} {t : TypeId} {A : Option Addr} {n size : Nat} {cs : List Value} (h : RdT w t A n size cs) : Rd w w.heap.size A n size cs :=
  ⟨h.1, fun hn => by
    obtain ⟨b, o, cur, e, hb, hc⟩ := h.2 hn
    exact ⟨b, o, e, hb.lt, fun j u hu => by rw [hb.cell]; exact hc j u hu⟩⟩
theorem RdT.below {w w' : World} {t : TypeId} {A : Option Addr} {n size : Nat} {cs : List Value} (h : RdT w t A n size cs) (hb : Below w.heap.size w w') : RdT w' t A n size cs :=
  ⟨h.1, fun hn => by
    obtain ⟨b, o, cur, e, hb', hc⟩ := h.2 hn
    exact ⟨b, o, cur, e, (hb.block b hb'.lt).trans hb', hc⟩⟩
theorem RdT.grown {w w' : World} {t : TypeId} {A : Option Addr} {n size : Nat} {cs : List Value} {row : Option Nat} (h : RdT w t A n size cs) (hg : w.grownBy w' row) (hr : ∀ g, row = some g → ∃ cur t', Bk w g t' cur ∧ t ≠ t') : RdT w' t A n size cs :=
  ⟨h.1, fun hn => by
    obtain ⟨b, o, cur, e, hb', hc⟩ := h.2 hn
    refine ⟨b, o, cur, e, (hg.block b hb'.lt (fun e => ?_)).trans hb', hc⟩
    obtain ⟨cur', t', hk, hne⟩ := hr b e.symm
    have hb2 : w.heap[b]? = _ := hb'
    have hk2 : w.heap[b]? = _ := hk
    rw [hb2] at hk2
    injection hk2 with h1
    injection h1 with _ h2
    exact hne h2⟩
theorem own_bk {w : World} {base : Nat} {e : TypeId} {size : Nat} {v : Value} {n : Nat} {xs : List Value} (h : w.ownsRow base e size v n xs) : ∀ g, v.ownBlock = some g → ∃ cur, Bk w g e cur := by
  intro g hg
  rcases h.2 with ⟨rfl, _⟩ | ⟨g', cap, cur, rfl, _, hh, _⟩
  · simp [Value.ownBlock] at hg
  · simp only [Value.ownBlock, Option.some.injEq] at hg
    subst hg
    exact ⟨cur, hh⟩
theorem Bk.grown {w w' : World} {g : Nat} {t e : TypeId} {cs : Array Value} (h : Bk w g t cs) {v : Value} {base size n : Nat} {xs : List Value} (hg : w.grownBy w' v.ownBlock) (ho : w.ownsRow base e size v n xs) (hne : t ≠ e) : Bk w' g t cs :=
  (hg.block g h.lt (fun e' => by
    obtain ⟨cur, hk⟩ := own_bk ho g e'.symm
    have hb2 : w.heap[g]? = _ := h
    have hk2 : w.heap[g]? = _ := hk
    rw [hb2] at hk2
    injection hk2 with h1
    injection h1 with _ h2
    exact hne h2)).trans h
theorem Bk.new (w : World) (t : TypeId) (cs : Array Value) : Bk (w.alloc (.cells cs t)) w.heap.size t cs := heap_alloc_new w _

theorem Rd.newAt (w : World) (h : Nat) (hh : w.heap.size = h) (cs : Array Value) (t : TypeId) (n size : Nat) (hs : cs.size = n * size) : Rd (w.alloc (.cells cs t)) (h + 1) (some ⟨h, 0, none⟩) n size cs.toList := by
  subst hh
  exact Rd.new w cs t n size hs
theorem info47 : (Try.prog.info? 47).map (fun i => (i.zero, i.size, i.bytes)) = some (some (.agg #[.int .i64 0, .int .i64 0]), 2, 16) := by kernel_rfl

set_option maxRecDepth 100000 in
set_option maxHeartbeats 4000000 in
theorem row_ok (w : World) (B : Nat) (R : Option Addr) (n c : Nat) (rg : List P3) (hR : Rd w B R n 3 (c3s rg)) (hB : B ≤ w.heap.size) (hn0 : 0 < n) (hn : n ≤ 100000) :
    Calls Try.prog 42 #[.slice R n c] w fun e w' => ∃ A k cc, e = .returned (.slice A k cc) ∧ RdT w' 47 A k 2 (c2s (rowL rg)) ∧ Below w.heap.size w w' := by
  obtain ⟨i0, hi0, hz0, hz1, hz2⟩ := info_parts info47
  have hlen := Lib.hid hR.len3
  obtain ⟨b, o, x0, y0, z0, rfl, hbB, hp0, q1, q2, q3⟩ := hR.at3 hn0
  simp only [Nat.zero_mul, Nat.add_zero] at q1 q2 q3
  have hbw : b < w.heap.size := by omega
  have hT : Hid ([(x0, y0)] ++ rowFrom rg n 0 = rowT rg) := by
    show _ = _
    rw [rowT, hp0.out, hlen.out]
    rfl
  go_enter Try.func42, Try.ntmps42
  go_wp2_with fail
  go_loopw [3, 4] (fun v i wr => ∃ (k : Nat) (td : List P2), td.length ≤ 1 + 8 * k ∧ k ≤ n + 1 ∧ 0 < td.length ∧ i = .int .i64 k ∧ wr.ownsRow w.heap.size 47 2 v td.length (c2s td) ∧ Below w.heap.size w wr ∧ Hid (td ++ rowFrom rg n k = rowT rg)) (fun _ i _ => n + 1 - (intOf i).toNat)
  case atStart =>
    refine ⟨0, [(x0, y0)], by simp, by omega, by simp, rfl, ?_, (Below.refl _ _).alloc (Nat.le_refl _) _, hT⟩
    exact World.ownsRow_lit w #[.int .i64 x0, .int .i64 y0] 1 (Nat.le_refl _) (by simp [maxLen]) rfl
  case round =>
    obtain ⟨k, td, htl, hk, htp, rfl, how, hbl, htd⟩ := hrel
    obtain ⟨A1, c1, rfl, -⟩ := Rd.of_own how
    by_cases hlt : k < n
    · have hRr := hR.below hbl hB
      obtain ⟨b1, o1, xa, ya, za, e1, -, hpa, qa1, qa2, qa3⟩ := hRr.at3 hlt
      simp only [Option.some.injEq, Addr.mk.injEq, and_true] at e1
      obtain ⟨rfl, rfl⟩ := e1
      obtain ⟨j, hj⟩ : ∃ j : Nat, (k + 1) % n = j := ⟨_, rfl⟩
      have hjl : j < n := by rw [← hj]; exact Nat.mod_lt _ (by omega)
      have hjI : ((k : Int) + 1) % (n : Int) = (j : Int) := by rw [← hj]; simp
      have Hj := Lib.hid hj
      clear hj
      obtain ⟨b1, o1, xn, yn, zn, e1, -, hpn, qn1, qn2, qn3⟩ := hRr.at3 hjl
      simp only [Option.some.injEq, Addr.mk.injEq, and_true] at e1
      obtain ⟨rfl, rfl⟩ := e1
      have hbr : b < wr.heap.size := by have := hbl.size; omega
      have hszr := hbl.size
      cases zn with
      | true =>
        have hnx := Lib.hid (rowFrom_on rg n k hlen.out hlt _ _ hpa.out (by rw [Hj.out]; exact hpn.out) rfl)
        go_wp2_with (at_builtin; refine wpList_append_any _ rfl (.tmp 27) (.tmp 30) 32 rfl w.heap.size 47 i0 _ 2 16 Try.underlying32 hi0 hz0 hz1 hz2 rfl (by decide) (.slice A1 td.length c1) td.length (c2s td) rfl ((how.alloc _).alloc _) (wr.heap.size + 1 + 1) (some ⟨wr.heap.size + 1, 0, none⟩) 1 1 [.int .i64 xn, .int .i64 yn] rfl (by exact Rd.newAt _ _ (by simp) #[.int .i64 xn, .int .i64 yn] 47 1 2 rfl) (by simp [Value.oneCell']) (by simp only [maxLen]; omega) (by omega) (by simp; omega) ?_; intro v1 w1 hown1 hg1 _)
        go_roundw
        case rel =>
          refine ⟨k + 1, td ++ [(xn, yn)], by simp; omega, by omega, by simp, by go_num, by simpa [c2s, c2] using hown1, ((hbl.alloc hszr _).alloc (by simp; omega) _).grown hg1 (by simp; omega) (fun g hg => (how.lt g hg).1), ?_⟩
          show _ = _
          rw [← htd.out, hnx.out]
          simp [at2]
        case measure => simp [intOf]; omega
      | false =>
        obtain ⟨j2, hj2⟩ : ∃ j : Nat, (k + 2) % n = j := ⟨_, rfl⟩
        have hj2l : j2 < n := by rw [← hj2]; exact Nat.mod_lt _ (by omega)
        have hj2I : ((k : Int) + 2) % (n : Int) = (j2 : Int) := by rw [← hj2]; simp
        have Hj2 := Lib.hid hj2
        clear hj2
        obtain ⟨b1, o1, xb, yb, zb, e1, -, hpb, qb1, qb2, qb3⟩ := hRr.at3 hj2l
        simp only [Option.some.injEq, Addr.mk.injEq, and_true] at e1
        obtain ⟨rfl, rfl⟩ := e1
        have hnx := Lib.hid (rowFrom_off rg n k hlen.out hlt _ _ _ hpa.out (by rw [Hj.out]; exact hpn.out) (by rw [Hj2.out]; exact hpb.out) rfl)
        obtain ⟨wo, rfl⟩ : ∃ wo : World, wo = wr := ⟨_, rfl⟩
        go_wp2_with fail
        clear hjI hj2I
        go_loopw [3, 7] (fun v s ws => ∃ q : Nat, 1 ≤ q ∧ q ≤ 9 ∧ s = .int .i64 q ∧ ws.ownsRow w.heap.size 47 2 v (td.length + (q - 1)) (c2s (td ++ (List.range (q - 1)).map fun s => crv (xa, ya) (xn, yn) (xb, yb) (s + 1))) ∧ Bk ws wo.heap.size 67 #[.int .i64 xn, .int .i64 yn, .bool false] ∧ Bk ws (wo.heap.size + 1) 67 #[.int .i64 xb, .int .i64 yb, .bool zb] ∧ Below w.heap.size w ws) (fun _ s _ => 9 - (intOf s).toNat)
        case atStart =>
          refine ⟨1, by omega, by omega, rfl, ?_, ?_, ?_, (hbl.alloc hszr _).alloc (by simp; omega) _⟩
          · simpa using (how.alloc _).alloc _
          · exact (Bk.new _ _ _).alloc _
          · have h := Bk.new (wo.alloc (.cells #[.int .i64 xn, .int .i64 yn, .bool false] 67)) 67 #[.int .i64 xb, .int .i64 yb, .bool zb]
            rwa [World.size_alloc] at h
        case round =>
          obtain ⟨q, hq1, hq9, rfl, hoq, hbn, hbb, hbq⟩ := hrel
          obtain ⟨A2, c2', rfl, -⟩ := Rd.of_own hoq
          by_cases hq : q ≤ 8
          · have hszq := hbq.size
            have hbq2 : b < wr.heap.size := by omega
            obtain ⟨b1, o1, xa', ya', za', e1, -, hpa', ra1, ra2, ra3⟩ := (hR.below hbq hB).at3 hlt
            simp only [Option.some.injEq, Addr.mk.injEq, and_true] at e1
            obtain ⟨rfl, rfl⟩ := e1
            have he := hpa.out.symm.trans hpa'.out
            simp only [Option.some.injEq, Prod.mk.injEq] at he
            obtain ⟨rfl, rfl, rfl⟩ := he
            have n0 : wr.cell? ⟨wo.heap.size, 0, none⟩ = some (.int .i64 xn) := hbn.cell 0
            have n1 : wr.cell? ⟨wo.heap.size, 1, none⟩ = some (.int .i64 yn) := hbn.cell 1
            have m0 : wr.cell? ⟨wo.heap.size + 1, 0, none⟩ = some (.int .i64 xb) := hbb.cell 0
            have m1 : wr.cell? ⟨wo.heap.size + 1, 1, none⟩ = some (.int .i64 yb) := hbb.cell 1
            have hkn : (k : Int) < (n : Int) := by omega
            have hk0 : (0 : Int) ≤ (k : Int) := by omega
            clear qa1 qa2 qa3 qn1 qn2 qn3 qb1 qb2 qb3
            go_wp2_with fail
            go_region_law (first
              | (refine step_append_any _ (by rfl) (.tmp 46) (.tmp 58) 32 (by rfl) w.heap.size 47 i0 _ 2 16 Try.underlying32 hi0 hz0 hz1 hz2 rfl (by decide) (.slice A2 (td.length + (q - 1)) c2') (td.length + (q - 1)) _ (by rfl) (by exact ((((((hoq.alloc _).alloc _).alloc _).alloc _).alloc _).drew)) (wr.heap.size + 1 + 1 + 1 + 1 + 1) (some ⟨wr.heap.size + 1 + 1 + 1 + 1, 0, none⟩) 1 1 [.int .i64 (crv (xa, ya) (xn, yn) (xb, yb) q).1, .int .i64 (crv (xa, ya) (xn, yn) (xb, yb) q).2] (by rfl) (by exact Rd.drew (Rd.newAt _ _ (by simp) #[.int .i64 (crv (xa, ya) (xn, yn) (xb, yb) q).1, .int .i64 (crv (xa, ya) (xn, yn) (xb, yb) q).2] 47 1 2 rfl)) (by simp [Value.oneCell']) (by simp only [maxLen]; omega) (by omega) (by simp; omega) ?_; intro v1 w1 hown1 hg1 _)
              | (go_simp; go_at_call 49; refine (curve_ok _ _ _ _ _ _ _ q (by omega) (by omega)).mono ?_; rintro e w' ⟨rfl, o1, o2, o3, o4, rfl⟩))
            all_goals go_wp2_with fail
            all_goals
              go_roundw
              case rel =>
                have hown2 : w1.ownsRow w.heap.size 47 2 v1 (td.length + (q + 1 - 1)) (c2s (td ++ (List.range (q + 1 - 1)).map fun s => crv (xa, ya) (xn, yn) (xb, yb) (s + 1))) := by
                  have e1 : td.length + (q - 1) + 1 = td.length + (q + 1 - 1) := by omega
                  have e2 : q + 1 - 1 = (q - 1) + 1 := by omega
                  rw [e2, List.range_succ, List.map_append, ← List.append_assoc, c2s_append]
                  rw [e1, e2] at hown1
                  have e3 : q - 1 + 1 = q := by omega
                  simpa [c2s, c2, e3] using hown1
                have hoq' := ((((((hoq.alloc o1).alloc o2).alloc o3).alloc o4).alloc (.cells #[.int .i64 (crv (xa, ya) (xn, yn) (xb, yb) q).1, .int .i64 (crv (xa, ya) (xn, yn) (xb, yb) q).2] 47)).drew)
                refine ⟨q + 1, by omega, by omega, by go_num, hown2, ?_, ?_, ?_⟩
                · exact Bk.grown (((((hbn.alloc _).alloc _).alloc _).alloc _).alloc _).drew hg1 hoq' (by decide)
                · exact Bk.grown (((((hbb.alloc _).alloc _).alloc _).alloc _).alloc _).drew hg1 hoq' (by decide)
                · exact ((((((hbq.alloc hszq _).alloc (by simp; omega) _).alloc (by simp; omega) _).alloc (by simp; omega) _).alloc (by simp; omega) _).drew).grown hg1 (by simp; omega) (fun g hg => (hoq.lt g hg).1)
              case measure => simp [intOf]; omega
          · go_wp2_with fail
            go_roundw
            case rel =>
              obtain rfl : q = 9 := by omega
              refine ⟨k + 2, td ++ (List.range 8).map (fun s => crv (xa, ya) (xn, yn) (xb, yb) (s + 1)), by simp; omega, by omega, by simp, by go_num, by simpa using hoq, hbq, ?_⟩
              show _ = _
              rw [← htd.out, hnx.out]
              simp [at2]
            case measure => simp [intOf]; omega
    · have hlt' : td.length - 1 + 1 = td.length := by omega
      have hfin : Hid (td = rowT rg) := by
        have h0 : rowFrom rg n k = [] := by
          have hl := hlen.out
          cases n with
          | zero => rfl
          | succ n => rw [rowFrom, if_neg (by omega)]
        have := htd.out
        rw [h0, List.append_nil] at this
        exact this
      obtain ⟨g, cap, hv, hg, hgl⟩ := how.form htp
      simp only [Value.slice.injEq, true_and] at hv
      obtain ⟨rfl, rfl⟩ := hv
      have hcap : td.length ≤ c1 := by
        rcases how.2 with ⟨h, _⟩ | ⟨g', cap', cur, h, _, _, h1, _⟩
        · cases h
        · simp only [Value.slice.injEq, true_and] at h
          omega
      generalize hN : td.length = N at *
      have HN := Lib.hid hN
      clear hN
      go_wp2_with fail
      go_ret
      refine ⟨_, _, _, rfl, ?_, hbl⟩
      rw [rowL, ← hfin.out]
      rcases how.2 with ⟨h, _⟩ | ⟨g', cap', cur, h, _, hh, _, _, _, htake⟩
      · cases h
      · simp only [Value.slice.injEq, Option.some.injEq, Addr.mk.injEq, and_true, true_and] at h
        obtain ⟨rfl, rfl⟩ := h
        refine ⟨by rw [c2s_length, List.length_dropLast, HN.out], fun _ => ⟨g, 0, cur, rfl, hh, fun j u hu => ?_⟩⟩
        have hne : td ≠ [] := by intro h; have := HN.out; rw [h] at this; simp at this; omega
        have h1 : (c2s td)[j]? = some u := by
          rw [← List.dropLast_concat_getLast hne, c2s_append, List.getElem?_append_left (List.getElem?_eq_some_iff.1 hu).1]
          exact hu
        rw [← htake, List.getElem?_take] at h1
        split at h1
        · rw [Nat.zero_add, ← Array.getElem?_toList]
          exact h1
        · cases h1
end Go.Proofs.Ytfpdbdbgemolgaa
