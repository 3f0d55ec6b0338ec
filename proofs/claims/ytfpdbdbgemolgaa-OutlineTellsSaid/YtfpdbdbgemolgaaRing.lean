/- The contract of outline.ring. -/
import Derived.Test.YtfpdbdbgemolgaaRow
import Derived.Test.YtfpdbdbgemolgaaArea
namespace Go.Proofs.Ytfpdbdbgemolgaa
open Go.RowKit

/-- what a point of a contour adds to its ring -/
def ringAt (ct : List P3) (i : Nat) : List P3 := match ct[i]?, ct[(i + 1) % ct.length]? with
  | some p, some q => if p.2.2 = false ∧ q.2.2 = false then [p, ((btw (at2 p) (at2 q)).1, (btw (at2 p) (at2 q)).2, true)] else [p]
  | _, _ => []
def ringTo (ct : List P3) (k : Nat) : List P3 := (List.range k).flatMap (ringAt ct)
def firstTo (ct : List P3) : Nat → Int
  | 0 => -1
  | k + 1 => if (ct[k]?.map (·.2.2)) = some true ∧ firstTo ct k < 0 then ((ringTo ct k).length : Int) else firstTo ct k
def ringS (ct : List P3) : Nat := if firstTo ct ct.length < 0 then (ringTo ct ct.length).length - 1 else (firstTo ct ct.length).toNat
def ringL (ct : List P3) : List P3 := (ringTo ct ct.length).drop (ringS ct) ++ (ringTo ct ct.length).take (ringS ct)
theorem ringTo_succ (ct : List P3) (k : Nat) : ringTo ct (k + 1) = ringTo ct k ++ ringAt ct k := by simp [ringTo, List.range_succ]
theorem ringAt_len (ct : List P3) (k : Nat) : (ringAt ct k).length ≤ 2 := by
  unfold ringAt
  split
  · split <;> simp
  · simp
theorem ringTo_len (ct : List P3) (k : Nat) : (ringTo ct k).length ≤ 2 * k := by
  induction k with
  | zero => simp [ringTo]
  | succ k ih => rw [ringTo_succ, List.length_append]; have := ringAt_len ct k; omega
theorem ringAt_pos (ct : List P3) (k : Nat) (h : k < ct.length) : 1 ≤ (ringAt ct k).length := by
  unfold ringAt
  rw [List.getElem?_eq_getElem h, List.getElem?_eq_getElem (show (k + 1) % ct.length < ct.length from Nat.mod_lt _ (by omega))]
  simp only
  split <;> simp
theorem ringTo_ge (ct : List P3) (k : Nat) (h : k ≤ ct.length) : k ≤ (ringTo ct k).length := by
  induction k with
  | zero => omega
  | succ k ih => rw [ringTo_succ, List.length_append]; have := ringAt_pos ct k (by omega); have := ih (by omega); omega
theorem firstTo_bd (ct : List P3) (k : Nat) (h : k ≤ ct.length) : -1 ≤ firstTo ct k ∧ (firstTo ct k < 0 ∨ firstTo ct k < ((ringTo ct k).length : Int)) := by
  induction k with
  | zero => simp [firstTo]
  | succ k ih =>
    have hi := ih (by omega)
    have hp := ringAt_pos ct k (by omega)
    rw [firstTo, ringTo_succ, List.length_append]
    split <;> constructor <;> omega

theorem info67 : (Try.prog.info? 67).map (fun i => (i.zero, i.size, i.bytes)) = some (some (.agg #[.int .i64 0, .int .i64 0, .bool false]), 3, 24) := by kernel_rfl

/-- 'append(all[f:len:len], all[:f]...)' -/
theorem run_append_turn (w : World) (g L f c : Nat) (all : List P3) (cur : Array Value) (hb : Bk w g 67 cur) (hl : all.length = L) (hf : f < L) (hL : L ≤ 1000000) (htk : cur.toList.take (L * 3) = c3s all) (ty : TypeId) :
    ∃ A c' w', (Builtin.append_ #[65, 65] ty #[.slice (some ⟨g, f * 3, none⟩) (L - f) (L - f), .slice (some ⟨g, 0, none⟩) f c]).run Try.prog w = .ok (.slice A L c') w' ∧ RdT w' 67 A L 3 (c3s (all.drop f ++ all.take f)) ∧ Below w.heap.size w w' := by
  obtain ⟨i0, hi0, hz0, hz1, hz2⟩ := info_parts info67
  have hcell : ∀ (j : Nat) (u : Value), (c3s all)[j]? = some u → cur[j]? = some u := by
    intro j u hu
    rw [← htk, List.getElem?_take] at hu
    split at hu
    · rwa [Array.getElem?_toList] at hu
    · cases hu
  rcases Nat.eq_zero_or_pos f with rfl | hf0
  · have hr := run_append_room_cells (P := Try.prog) w 65 ty 67 i0 Try.underlying65 hi0 g (0 * 3) (L - 0) (L - 0) ⟨g, 0, none⟩ 0 c [] (by simp) (by simp) (by simp) (by omega) (by simp) (by simp)
    refine ⟨_, _, _, hr, ⟨by rw [c3s_length]; simp [hl], fun _ => ⟨g, 0, cur, by simp, hb, fun j u hu => ?_⟩⟩, Below.refl _ _⟩
    rw [Nat.zero_add]
    exact hcell j u (by simpa using hu)
  · have hd : ∀ (j : Nat) (u : Value), (c3s (all.drop f))[j]? = some u → w.cell? ((⟨g, f * 3, none⟩ : Addr).add j) = some u := by
      intro j u hu
      rw [addr_add, hb.cell]
      rw [c3s_drop, List.getElem?_drop] at hu
      exact hcell _ _ hu
    have ht : ∀ (j : Nat) (u : Value), (c3s (all.take f))[j]? = some u → w.cell? ((⟨g, 0, none⟩ : Addr).add j) = some u := by
      intro j u hu
      rw [addr_add, hb.cell, Nat.zero_add]
      rw [c3s_take, List.getElem?_take] at hu
      split at hu
      · exact hcell _ _ hu
      · cases hu
    have hr := run_append_grow (P := Try.prog) w 65 ty 67 i0 _ Try.underlying65 hi0 hz0 ⟨g, f * 3, none⟩ (L - f) (L - f) (c3s (all.drop f)) (by rw [c3s_length, hz1]; simp [hl]) hd ⟨g, 0, none⟩ f c (c3s (all.take f)) (by rw [c3s_length, hz1]; simp; omega) ht (by omega) (by omega) (by rw [hz2]; exact growslice_fits (by omega) (by omega))
    have e1 : L - f + f = L := by omega
    rw [e1] at hr
    refine ⟨_, _, _, hr, ⟨by rw [c3s_length]; simp; omega, fun _ => ⟨_, 0, _, rfl, heap_alloc_new w.drew _, fun j u hu => ?_⟩⟩, ((Below.refl _ w).drew).alloc (by simp) _⟩
    rw [Nat.zero_add, ← Array.getElem?_toList]
    rw [c3s_append] at hu
    simp only [Array.toList_append]
    rw [List.getElem?_append_left (by simpa using (List.getElem?_eq_some_iff.1 hu).1)]
    exact hu


theorem step_append_turn {ops : Array Oper} {o : Oper} {a : Act} {w : World} {K : Act → World → Prop} {Q : Exit → Act → World → Prop} {E : Prop} (hgd : o.guard = none) (s x : Operand)
    (ho : o.op = .call { callee := .builtin .append, args := #[s, x], argTypes := #[65, 65] })
    (g L f c : Nat) (all : List P3) (cur : Array Value) (hb : Bk w g 67 cur) (hl : all.length = L) (hf : f < L) (hL : L ≤ 1000000) (htk : cur.toList.take (L * 3) = c3s all)
    (hs : a.eval s = .slice (some ⟨g, f * 3, none⟩) (L - f) (L - f)) (hx : a.eval x = .slice (some ⟨g, 0, none⟩) f c)
    (h : ∀ A c' w', RdT w' 67 A L 3 (c3s (all.drop f ++ all.take f)) → Below w.heap.size w w' → K (a.put o.dst (.slice A L c')) w') :
    if Region.wanted o (yielded ops a.tmps) = true then Oper.wp Try.prog o a w K Q else E := by
  have hw : Region.wanted o (yielded ops a.tmps) = true := by simp [Region.wanted, hgd]
  rw [if_pos hw]
  obtain ⟨A, c', w', hrun, h1, h2⟩ := run_append_turn w g L f c all cur hb hl hf hL htk o.type
  unfold Oper.wp execOp
  simp only [ho, resolve, invoke, builtin, Sem.run_bind, Sem.run_pure, Result.andThen_ok, List.map_toArray, List.map_cons, List.map_nil, hs, hx, hrun]
  exact h A c' w' h1 h2

set_option maxRecDepth 100000 in
set_option maxHeartbeats 4000000 in
theorem ring_ok (w : World) (B : Nat) (C : Option Addr) (n c : Nat) (ct : List P3) (hC : Rd w B C n 3 (c3s ct)) (hB : B ≤ w.heap.size) (hn0 : 0 < n) (hn : n ≤ 40000) :
    Calls Try.prog 43 #[.slice C n c] w fun e w' => ∃ A cc, e = .returned (.slice A (ringL ct).length cc) ∧ RdT w' 67 A (ringL ct).length 3 (c3s (ringL ct)) ∧ Below w.heap.size w w' := by
  obtain ⟨i0, hi0, hz0, hz1, hz2⟩ := info_parts info67
  have hlen := Lib.hid hC.len3
  obtain ⟨b, o, x0, y0, z0, rfl, hbB, -, -, -, -⟩ := hC.at3 hn0
  go_enter Try.func43, Try.ntmps43
  go_wp2_with fail
  go_loopw [3, 4, 10] (fun v f i wr => ∃ k : Nat, k ≤ n ∧ i = .int .i64 k ∧ f = .int .i64 (firstTo ct k) ∧ wr.ownsRow w.heap.size 67 3 v (ringTo ct k).length (c3s (ringTo ct k)) ∧ Below w.heap.size w wr) (fun _ _ i _ => n - (intOf i).toNat)
  case atStart => exact ⟨0, by omega, rfl, rfl, World.ownsRow_nil _ _ _ _, Below.refl _ _⟩
  case round =>
    obtain ⟨k, hk, rfl, rfl, how, hbl⟩ := hrel
    obtain ⟨A1, c1, rfl, -⟩ := Rd.of_own how
    have hlk := ringTo_len ct k
    have hfb := firstTo_bd ct k (by rw [hlen.out]; exact hk)
    have hfs : Hid (∀ on, ct[k]?.map (·.2.2) = some on → firstTo ct (k + 1) = if on = true ∧ firstTo ct k < 0 then ((ringTo ct k).length : Int) else firstTo ct k) := by
      intro on h
      rw [firstTo, h]
      simp only [Option.some.injEq]
    have hrs := Lib.hid (ringTo_succ ct k)
    by_cases hlt : k < n
    · have hCr := hC.below hbl hB
      obtain ⟨b1, o1, xa, ya, za, e1, -, hpa, qa1, qa2, qa3⟩ := hCr.at3 hlt
      simp only [Option.some.injEq, Addr.mk.injEq, and_true] at e1
      obtain ⟨rfl, rfl⟩ := e1
      obtain ⟨j, hj⟩ : ∃ j : Nat, (k + 1) % n = j := ⟨_, rfl⟩
      have hjl : j < n := by rw [← hj]; exact Nat.mod_lt _ (by omega)
      have hjI : ((k : Int) + 1) % (n : Int) = (j : Int) := by rw [← hj]; simp
      have Hj := Lib.hid hj
      clear hj
      obtain ⟨b1, o1, xn, yn, zn, e1, -, hpn, qn1, qn2, qn3⟩ := hCr.at3 hjl
      simp only [Option.some.injEq, Addr.mk.injEq, and_true] at e1
      obtain ⟨rfl, rfl⟩ := e1
      have hszr := hbl.size
      have hbr : b < wr.heap.size := by omega
      have hat : Hid (ringAt ct k = if za = false ∧ zn = false then [(xa, ya, za), ((btw (xa, ya) (xn, yn)).1, (btw (xa, ya) (xn, yn)).2, true)] else [(xa, ya, za)]) := by
        show _ = _
        rw [ringAt, hlen.out, Hj.out, hpa.out, hpn.out]
        rfl
      have hfs2 := Lib.hid (hfs.out za (by rw [hpa.out]; rfl))
      clear hfs
      have hring : Hid (ringTo ct (k + 1) = ringTo ct k ++ ringAt ct k) := hrs
      clear hrs
      generalize hF : firstTo ct k = F at *
      generalize ringTo ct k = rt at *
      clear hF
      clear hCr
      cases za with
      | true =>
        by_cases hneg : F < 0
        · have hdd : decide (F < 0) = true := by simp [hneg]
          go_wp2_with (at_builtin; refine wpList_append_any _ rfl (.tmp 23) (.tmp 25) 65 rfl w.heap.size 67 i0 _ 3 24 Try.underlying65 hi0 hz0 hz1 hz2 rfl (by decide) (.slice A1 rt.length c1) rt.length (c3s rt) rfl ((how.alloc _).alloc _) (wr.heap.size + 1 + 1) (some ⟨wr.heap.size + 1, 0, none⟩) 1 1 [.int .i64 xa, .int .i64 ya, .bool true] rfl (by exact Rd.newAt _ _ (by simp) #[.int .i64 xa, .int .i64 ya, .bool true] 67 1 3 rfl) (by simp [Value.oneCell']) (by simp only [maxLen]; omega) (by omega) (by simp; omega) ?_; intro v1 w1 hown1 hg1 _; have hbl1 : Below w.heap.size w w1 := ((hbl.alloc hszr _).alloc (by simp; omega) _).grown hg1 (by simp; omega) (fun g hg => (how.lt g hg).1); have r1 : w1.cell? ⟨b, o + j * 3, none⟩ = some (.int .i64 xn) := (hbl1.cell (p := ⟨b, o + j * 3, none⟩) (by simp; omega)).trans ((hbl.cell (p := ⟨b, o + j * 3, none⟩) (by simp; omega)).symm.trans qn1); have r2 : w1.cell? ⟨b, o + j * 3 + 1, none⟩ = some (.int .i64 yn) := (hbl1.cell (p := ⟨b, o + j * 3 + 1, none⟩) (by simp; omega)).trans ((hbl.cell (p := ⟨b, o + j * 3 + 1, none⟩) (by simp; omega)).symm.trans qn2); have r3 : w1.cell? ⟨b, o + j * 3 + 2, none⟩ = some (.bool zn) := (hbl1.cell (p := ⟨b, o + j * 3 + 2, none⟩) (by simp; omega)).trans ((hbl.cell (p := ⟨b, o + j * 3 + 2, none⟩) (by simp; omega)).symm.trans qn3); have hne : some wr.heap.size ≠ (Value.slice A1 rt.length c1).ownBlock := (fun e => by have := (how.lt _ e.symm).2; omega); have hs1 : wr.heap.size + 1 + 1 ≤ w1.heap.size := (by have := hg1.size; simpa using this); have t0 : w1.cell? ⟨wr.heap.size, 0, none⟩ = some (.int .i64 xa) := (hg1.cell_far ⟨wr.heap.size, 0, none⟩ (by simp; omega) hne).trans (by simp [go_sem]); have t1 : w1.cell? ⟨wr.heap.size, 1, none⟩ = some (.int .i64 ya) := (hg1.cell_far ⟨wr.heap.size, 1, none⟩ (by simp; omega) hne).trans (by simp [go_sem]); have t2 : w1.cell? ⟨wr.heap.size, 2, none⟩ = some (.bool true) := (hg1.cell_far ⟨wr.heap.size, 2, none⟩ (by simp; omega) hne).trans (by simp [go_sem]); have hl1 : b < w1.heap.size := (by omega); have hl2 : wr.heap.size < w1.heap.size := (by omega); obtain ⟨A2, c2', rfl, -⟩ := Rd.of_own hown1)
          go_roundw
          case rel =>
            refine ⟨k + 1, by omega, by go_num, ?_, ?_, hbl1.alloc (by omega) _⟩
            · rw [hfs2.out, if_pos ⟨rfl, hneg⟩]
            · rw [hring.out, hat.out, if_neg (by simp), c3s_append]
              simpa [c3s, c3] using hown1.alloc _
          case measure => simp [intOf]; omega
        · have hdd : decide (F < 0) = false := by simp; omega
          go_wp2_with (at_builtin; refine wpList_append_any _ rfl (.tmp 23) (.tmp 25) 65 rfl w.heap.size 67 i0 _ 3 24 Try.underlying65 hi0 hz0 hz1 hz2 rfl (by decide) (.slice A1 rt.length c1) rt.length (c3s rt) rfl ((how.alloc _).alloc _) (wr.heap.size + 1 + 1) (some ⟨wr.heap.size + 1, 0, none⟩) 1 1 [.int .i64 xa, .int .i64 ya, .bool true] rfl (by exact Rd.newAt _ _ (by simp) #[.int .i64 xa, .int .i64 ya, .bool true] 67 1 3 rfl) (by simp [Value.oneCell']) (by simp only [maxLen]; omega) (by omega) (by simp; omega) ?_; intro v1 w1 hown1 hg1 _; have hbl1 : Below w.heap.size w w1 := ((hbl.alloc hszr _).alloc (by simp; omega) _).grown hg1 (by simp; omega) (fun g hg => (how.lt g hg).1); have r1 : w1.cell? ⟨b, o + j * 3, none⟩ = some (.int .i64 xn) := (hbl1.cell (p := ⟨b, o + j * 3, none⟩) (by simp; omega)).trans ((hbl.cell (p := ⟨b, o + j * 3, none⟩) (by simp; omega)).symm.trans qn1); have r2 : w1.cell? ⟨b, o + j * 3 + 1, none⟩ = some (.int .i64 yn) := (hbl1.cell (p := ⟨b, o + j * 3 + 1, none⟩) (by simp; omega)).trans ((hbl.cell (p := ⟨b, o + j * 3 + 1, none⟩) (by simp; omega)).symm.trans qn2); have r3 : w1.cell? ⟨b, o + j * 3 + 2, none⟩ = some (.bool zn) := (hbl1.cell (p := ⟨b, o + j * 3 + 2, none⟩) (by simp; omega)).trans ((hbl.cell (p := ⟨b, o + j * 3 + 2, none⟩) (by simp; omega)).symm.trans qn3); have hne : some wr.heap.size ≠ (Value.slice A1 rt.length c1).ownBlock := (fun e => by have := (how.lt _ e.symm).2; omega); have hs1 : wr.heap.size + 1 + 1 ≤ w1.heap.size := (by have := hg1.size; simpa using this); have t0 : w1.cell? ⟨wr.heap.size, 0, none⟩ = some (.int .i64 xa) := (hg1.cell_far ⟨wr.heap.size, 0, none⟩ (by simp; omega) hne).trans (by simp [go_sem]); have t1 : w1.cell? ⟨wr.heap.size, 1, none⟩ = some (.int .i64 ya) := (hg1.cell_far ⟨wr.heap.size, 1, none⟩ (by simp; omega) hne).trans (by simp [go_sem]); have t2 : w1.cell? ⟨wr.heap.size, 2, none⟩ = some (.bool true) := (hg1.cell_far ⟨wr.heap.size, 2, none⟩ (by simp; omega) hne).trans (by simp [go_sem]); have hl1 : b < w1.heap.size := (by omega); have hl2 : wr.heap.size < w1.heap.size := (by omega); obtain ⟨A2, c2', rfl, -⟩ := Rd.of_own hown1)
          go_roundw
          case rel =>
            refine ⟨k + 1, by omega, by go_num, ?_, ?_, hbl1.alloc (by omega) _⟩
            · rw [hfs2.out, if_neg (by simp; omega)]
            · rw [hring.out, hat.out, if_neg (by simp), c3s_append]
              simpa [c3s, c3] using hown1.alloc _
          case measure => simp [intOf]; omega
      | false =>
        cases zn with
        | true =>
          go_wp2_with (at_builtin; refine wpList_append_any _ rfl (.tmp 23) (.tmp 25) 65 rfl w.heap.size 67 i0 _ 3 24 Try.underlying65 hi0 hz0 hz1 hz2 rfl (by decide) (.slice A1 rt.length c1) rt.length (c3s rt) rfl ((how.alloc _).alloc _) (wr.heap.size + 1 + 1) (some ⟨wr.heap.size + 1, 0, none⟩) 1 1 [.int .i64 xa, .int .i64 ya, .bool false] rfl (by exact Rd.newAt _ _ (by simp) #[.int .i64 xa, .int .i64 ya, .bool false] 67 1 3 rfl) (by simp [Value.oneCell']) (by simp only [maxLen]; omega) (by omega) (by simp; omega) ?_; intro v1 w1 hown1 hg1 _; have hbl1 : Below w.heap.size w w1 := ((hbl.alloc hszr _).alloc (by simp; omega) _).grown hg1 (by simp; omega) (fun g hg => (how.lt g hg).1); have r1 : w1.cell? ⟨b, o + j * 3, none⟩ = some (.int .i64 xn) := (hbl1.cell (p := ⟨b, o + j * 3, none⟩) (by simp; omega)).trans ((hbl.cell (p := ⟨b, o + j * 3, none⟩) (by simp; omega)).symm.trans qn1); have r2 : w1.cell? ⟨b, o + j * 3 + 1, none⟩ = some (.int .i64 yn) := (hbl1.cell (p := ⟨b, o + j * 3 + 1, none⟩) (by simp; omega)).trans ((hbl.cell (p := ⟨b, o + j * 3 + 1, none⟩) (by simp; omega)).symm.trans qn2); have r3 : w1.cell? ⟨b, o + j * 3 + 2, none⟩ = some (.bool true) := (hbl1.cell (p := ⟨b, o + j * 3 + 2, none⟩) (by simp; omega)).trans ((hbl.cell (p := ⟨b, o + j * 3 + 2, none⟩) (by simp; omega)).symm.trans qn3); have hne : some wr.heap.size ≠ (Value.slice A1 rt.length c1).ownBlock := (fun e => by have := (how.lt _ e.symm).2; omega); have hs1 : wr.heap.size + 1 + 1 ≤ w1.heap.size := (by have := hg1.size; simpa using this); have t0 : w1.cell? ⟨wr.heap.size, 0, none⟩ = some (.int .i64 xa) := (hg1.cell_far ⟨wr.heap.size, 0, none⟩ (by simp; omega) hne).trans (by simp [go_sem]); have t1 : w1.cell? ⟨wr.heap.size, 1, none⟩ = some (.int .i64 ya) := (hg1.cell_far ⟨wr.heap.size, 1, none⟩ (by simp; omega) hne).trans (by simp [go_sem]); have t2 : w1.cell? ⟨wr.heap.size, 2, none⟩ = some (.bool false) := (hg1.cell_far ⟨wr.heap.size, 2, none⟩ (by simp; omega) hne).trans (by simp [go_sem]); have hl1 : b < w1.heap.size := (by omega); have hl2 : wr.heap.size < w1.heap.size := (by omega); obtain ⟨A2, c2', rfl, -⟩ := Rd.of_own hown1)
          go_roundw
          case rel =>
            refine ⟨k + 1, by omega, by go_num, ?_, ?_, hbl1.alloc (by omega) _⟩
            · rw [hfs2.out, if_neg (by simp)]
            · rw [hring.out, hat.out, if_neg (by simp), c3s_append]
              simpa [c3s, c3] using hown1.alloc _
          case measure => simp [intOf]; omega
        | false =>
          go_wp2_with (first | (at_builtin; refine wpList_append_any _ rfl (.tmp 23) (.tmp 25) 65 rfl w.heap.size 67 i0 _ 3 24 Try.underlying65 hi0 hz0 hz1 hz2 rfl (by decide) (.slice A1 rt.length c1) rt.length (c3s rt) rfl ((how.alloc _).alloc _) (wr.heap.size + 1 + 1) (some ⟨wr.heap.size + 1, 0, none⟩) 1 1 [.int .i64 xa, .int .i64 ya, .bool false] rfl (by exact Rd.newAt _ _ (by simp) #[.int .i64 xa, .int .i64 ya, .bool false] 67 1 3 rfl) (by simp [Value.oneCell']) (by simp only [maxLen]; omega) (by omega) (by simp; omega) ?_; intro v1 w1 hown1 hg1 _; have hbl1 : Below w.heap.size w w1 := ((hbl.alloc hszr _).alloc (by simp; omega) _).grown hg1 (by simp; omega) (fun g hg => (how.lt g hg).1); have r1 : w1.cell? ⟨b, o + j * 3, none⟩ = some (.int .i64 xn) := (hbl1.cell (p := ⟨b, o + j * 3, none⟩) (by simp; omega)).trans ((hbl.cell (p := ⟨b, o + j * 3, none⟩) (by simp; omega)).symm.trans qn1); have r2 : w1.cell? ⟨b, o + j * 3 + 1, none⟩ = some (.int .i64 yn) := (hbl1.cell (p := ⟨b, o + j * 3 + 1, none⟩) (by simp; omega)).trans ((hbl.cell (p := ⟨b, o + j * 3 + 1, none⟩) (by simp; omega)).symm.trans qn2); have r3 : w1.cell? ⟨b, o + j * 3 + 2, none⟩ = some (.bool false) := (hbl1.cell (p := ⟨b, o + j * 3 + 2, none⟩) (by simp; omega)).trans ((hbl.cell (p := ⟨b, o + j * 3 + 2, none⟩) (by simp; omega)).symm.trans qn3); have hne : some wr.heap.size ≠ (Value.slice A1 rt.length c1).ownBlock := (fun e => by have := (how.lt _ e.symm).2; omega); have hs1 : wr.heap.size + 1 + 1 ≤ w1.heap.size := (by have := hg1.size; simpa using this); have t0 : w1.cell? ⟨wr.heap.size, 0, none⟩ = some (.int .i64 xa) := (hg1.cell_far ⟨wr.heap.size, 0, none⟩ (by simp; omega) hne).trans (by simp [go_sem]); have t1 : w1.cell? ⟨wr.heap.size, 1, none⟩ = some (.int .i64 ya) := (hg1.cell_far ⟨wr.heap.size, 1, none⟩ (by simp; omega) hne).trans (by simp [go_sem]); have t2 : w1.cell? ⟨wr.heap.size, 2, none⟩ = some (.bool false) := (hg1.cell_far ⟨wr.heap.size, 2, none⟩ (by simp; omega) hne).trans (by simp [go_sem]); have hl1 : b < w1.heap.size := (by omega); have hl2 : wr.heap.size < w1.heap.size := (by omega); obtain ⟨A2, c2', rfl, -⟩ := Rd.of_own hown1) | (go_at_call 50; refine (between_ok _ _ _ _ _).mono ?_; rintro e w' ⟨rfl, o1, o2, o3, rfl⟩) | (at_builtin; refine wpList_append_any _ rfl (.tmp 43) (.tmp 50) 65 rfl w.heap.size 67 i0 _ 3 24 Try.underlying65 hi0 hz0 hz1 hz2 rfl (by decide) (.slice A2 (rt.length + 1) c2') (rt.length + 1) _ rfl (by exact (((((hown1.alloc _).alloc _).alloc _).alloc _).alloc _)) (w1.heap.size + 1 + 1 + 1 + 1 + 1) (some ⟨w1.heap.size + 1 + 1 + 1 + 1, 0, none⟩) 1 1 [.int .i64 (btw (xa, ya) (xn, yn)).1, .int .i64 (btw (xa, ya) (xn, yn)).2, .bool true] rfl (by exact Rd.newAt _ _ (by simp) #[.int .i64 (btw (xa, ya) (xn, yn)).1, .int .i64 (btw (xa, ya) (xn, yn)).2, .bool true] 67 1 3 rfl) (by simp [Value.oneCell']) (by simp only [maxLen]; omega) (by omega) (by simp; omega) ?_; intro v2 w2 hown2 hg2 _))
          go_roundw
          case rel =>
            refine ⟨k + 1, by omega, by go_num, ?_, ?_, ?_⟩
            · rw [hfs2.out, if_neg (by simp)]
            · rw [hring.out, hat.out, if_pos (by simp), c3s_append]
              simpa [c3s, c3] using hown2
            · exact (((((hbl1.alloc (by omega) _).alloc (by simp; omega) _).alloc (by simp; omega) _).alloc (by simp; omega) _).alloc (by simp; omega) _).grown hg2 (by simp; omega) (fun g hg => (hown1.lt g hg).1)
          case measure => simp [intOf]; omega
    · have hkn : k = ct.length := by rw [hlen.out]; omega
      have hge := ringTo_ge ct k (by omega)
      have hSf : Hid (ringS ct = if firstTo ct k < 0 then (ringTo ct k).length - 1 else (firstTo ct k).toNat) := by rw [hkn]; rfl
      have hRL : Hid (ringL ct = (ringTo ct k).drop (ringS ct) ++ (ringTo ct k).take (ringS ct)) := by rw [hkn]; rfl
      have hRn : Hid ((ringL ct).length = (ringTo ct k).length) := by
        have := hRL.out
        show _ = _
        rw [this, List.length_append, List.length_drop, List.length_take]
        omega
      have hpos : 0 < (ringTo ct k).length := by omega
      clear hkn hfs hrs
      generalize firstTo ct k = F at *
      generalize ringTo ct k = rt at *
      generalize ringS ct = fS at *
      obtain ⟨g, cap, hv, hg, hgl⟩ := how.form hpos
      simp only [Value.slice.injEq, true_and] at hv
      obtain ⟨rfl, rfl⟩ := hv
      rcases how.2 with ⟨h, _⟩ | ⟨g', cap', cur, h, _, hh, hcap, _, _, htake⟩
      · cases h
      · simp only [Value.slice.injEq, Option.some.injEq, Addr.mk.injEq, and_true, true_and] at h
        obtain ⟨rfl, rfl⟩ := h
        have Hh : Bk wr g 67 cur := hh
        have Htake := Lib.hid htake
        clear htake hh
        generalize hN : rt.length = N at *
        have HN := Lib.hid hN
        clear hN
        have hNI : (0 : Int) < (N : Int) := by omega
        by_cases hneg : F < 0
        · obtain ⟨f, hf⟩ : ∃ f : Nat, (N : Int) - 1 = (f : Int) := ⟨N - 1, by omega⟩
          have hfN : f < N := by omega
          have hfS : Hid (fS = f) := by
            have := hSf.out
            rw [if_pos hneg] at this
            show _ = _
            omega
          have hf0 : (0 : Int) ≤ (f : Int) := by omega
          have hf1 : (f : Int) ≤ (N : Int) := by omega
          have hfc : f ≤ c1 := by omega
          have hfle : f ≤ N := by omega
          have hNe : ¬ (N = f) := by omega
          have hdd : decide (F < 0) = true := by simp [hneg]
          go_wp2_with fail
          go_region_law (first
            | (refine step_append_turn (by rfl) (.tmp 64) (.tmp 67) (by rfl) g N f c1 rt cur Hh.drew HN.out hfN (by omega) Htake.out (by go_simp) (by go_simp) ?_; intro A3 c3' w3 hr3 hb3))
          all_goals
            go_wp2_with fail
            go_ret
            refine ⟨A3, c3', ?_, ?_, ?_⟩
            · rw [hRn.out]
              rfl
            · rw [hRn.out, hRL.out, hfS.out]
              exact hr3
            · exact (hbl.drew).trans (hb3.mono (by have := hbl.size; exact this))
        · obtain ⟨f, rfl⟩ : ∃ f : Nat, F = (f : Int) := ⟨F.toNat, by omega⟩
          have hfN : f < N := by omega
          have hfS : Hid (fS = f) := by
            have := hSf.out
            rw [if_neg hneg] at this
            show _ = _
            simpa using this
          have hf0 : (0 : Int) ≤ (f : Int) := by omega
          have hf1 : (f : Int) ≤ (N : Int) := by omega
          have hfc : f ≤ c1 := by omega
          have hfle : f ≤ N := by omega
          have hNe : ¬ (N = f) := by omega
          go_wp2_with fail
          go_region_law (first
            | (refine step_append_turn (by rfl) (.tmp 64) (.tmp 67) (by rfl) g N f c1 rt cur Hh.drew HN.out hfN (by omega) Htake.out (by go_simp) (by go_simp) ?_; intro A3 c3' w3 hr3 hb3))
          all_goals
            go_wp2_with fail
            go_ret
            refine ⟨A3, c3', ?_, ?_, ?_⟩
            · rw [hRn.out]
              rfl
            · rw [hRn.out, hRL.out, hfS.out]
              exact hr3
            · exact (hbl.drew).trans (hb3.mono (by have := hbl.size; exact this))
end Go.Proofs.Ytfpdbdbgemolgaa
