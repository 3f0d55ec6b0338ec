/- fleuronlaw05.WordsRows returns true. -/
import Derived.Test.YtccnogdfnikioaaDoorShown
import Derived.Test.YtccnogdfnikioaaDoorOpenRows
import Derived.Test.YtccnogdfnikioaaDoorPureRows
import Derived.Test.YtccnogdfnikioaaDoorNotes
import Derived.Test.YtccnogdfnikioaaDoorSets
import Derived.Test.YtccnogdfnikioaaDoorBack
import Derived.BigRegion
import Derived.Deep.DeepCutAuto
import Derived.Test.YtccnogdfnikioaaDoorMore
namespace Go.Proofs.YtccnogdfnikioaaDoor
open Go.RowKit

attribute [-go_sem] Builtin.append_
theorem own_cap {w : World} {base : Nat} {e : TypeId} {size n c : Nat} {A : Option Addr} {xs : List Value} (h : w.ownsRow base e size (.slice A n c) n xs) : n ≤ c := by
  rcases h.2 with ⟨h1, h2⟩ | ⟨g, cap, cur, hv, hb, hg, hnc, -⟩
  · omega
  · cases hv
    exact hnc
theorem btR {a b c : World} (h : Below a.heap.size a b) (k : Below b.heap.size b c) : Below a.heap.size a c := h.trans (k.mono h.size)
theorem quietR {f : FuncId} {args : Array Value} {w : World} {a n : Nat} {v : Value} (h : Calls Tryd.prog f args (w.drewN (a + n)) fun e w' => e = .returned v ∧ w.drewN (a + n) = w') :
    Calls Tryd.prog f args (w.drewN (a + n)) fun e w'' => e = .returned v ∧ ∃ m, w'' = w.drewN (a + m) := h.mono fun _ _ ⟨he, hm⟩ => ⟨he, n, hm.symm⟩
def nsW (s : B) : P3 := wd (nameL s)
def nsR (ss : List B) : List P3 := (ss.take 6).map nsW
theorem nsR_no (ss : List B) : ∀ x ∈ nsR ss, noBr x := by
  intro x hx
  simp only [nsR, List.mem_map] at hx
  obtain ⟨s, -, rfl⟩ := hx
  exact (nameL_ne s).2
theorem nsR_min (ss : List B) (nn : Nat) (h : nn = min ss.length 6) : (ss.take nn).map nsW = nsR ss := by
  rw [nsR, h]
  congr 1
  rw [Nat.min_comm, ← List.take_take, List.take_length]
theorem takeR_snoc (rs : List (List B)) (k : Nat) (ss : List B) (h : rs[k]? = some ss) : (rs.take (k + 1)).map nsR = (rs.take k).map nsR ++ [nsR ss] := by
  obtain ⟨h1, h2⟩ := List.getElem?_eq_some_iff.1 h
  rw [List.take_succ_eq_append_getElem h1, h2, List.map_append]
  rfl
set_option maxRecDepth 100000 in
set_option maxHeartbeats 8000000 in
theorem wordsRows_ok (w : World) (A : Option Addr) (n c : Nat) (rs : List (List (List UInt8))) (hr : StrsAt w A n rs) (_hc : n ≤ c) (hm : c ≤ maxLen) (x : Int) (hx0 : 0 ≤ x) (hx : x ≤ 65535) (z : UInt8) :
    Calls Tryd.prog 8 #[.slice A n c, .int .u16 x, .int .u8 z.toNat] w fun e w' => e = .returned (.bool true) ∧ Below w.heap.size w w' := by
  obtain ⟨i0, hi0, hz0, hz1, hz2⟩ := info_parts infoS35
  have hn : n ≤ 9223372036854775807 := by unfold maxLen at hm; omega
  obtain ⟨mm, hmm⟩ : ∃ mm : Nat, mm = min n 12 := ⟨_, rfl⟩
  have hmin : min (n : Int) 12 = (mm : Int) := by omega
  have hm12 : mm ≤ 12 := by omega
  have hmn : mm ≤ n := by omega
  clear hm hmm
  go_enter Tryd.func8, Tryd.ntmps8
  go_wp2_with fail
  refine (shown_ok _).mono ?_
  rintro e w1 ⟨rfl, hs1⟩
  have hP : (w1.alloc (.cells #[] 35)).ownsRow w1.heap.size 35 3 (.slice (some ⟨w1.heap.size, 0, none⟩) 0 0) 0 [] := World.ownsRow_made w1 #[] 0 (Nat.le_refl _) (by simp [maxLen]) rfl
  have hs1s := hs1.size
  go_wp2_with fail
  go_loopw [8, 10] (fun v i wr => ∃ (k : Nat) (ws : List P3), k ≤ mm ∧ i = .int .i64 k ∧ wr.ownsRow w1.heap.size 35 3 v ws.length (c3s ws) ∧ Below w1.heap.size w1 wr ∧ Hid (∀ rest, setsGo false [] [] (ws ++ rest) = setsGo false [] ((rs.take k).map nsR) rest) ∧ ws.length ≤ 8 * k) (fun _ i _ => mm - (intOf i).toNat)
  case atStart => exact ⟨0, [], by omega, rfl, hP, (Below.refl _ _).alloc (Nat.le_refl _) _, fun rest => rfl, by simp⟩
  case round =>
    obtain ⟨k, ws, hk, rfl, how, hbl, hsets, hwl⟩ := hrel
    have hsz := hbl.size
    obtain ⟨A1, c1, rfl, hrdA⟩ := Rd.of_own how
    by_cases hlt : k < mm
    · have hkn : k < n := by omega
      obtain ⟨ss, hss⟩ : ∃ ss, rs[k]? = some ss := ⟨_, List.getElem?_eq_getElem (by rw [hr.1]; omega)⟩
      obtain ⟨b, o, rfl, hbB, hc⟩ := hr.2 (by omega)
      obtain ⟨A2, c2, hcell, hc2, hc2m, hrd2, hlens⟩ := hc k ss hss
      have hssl : ss.length ≤ 9223372036854775807 := by unfold maxLen at hc2m; omega
      obtain ⟨nn, hnn⟩ : ∃ nn : Nat, nn = min ss.length 6 := ⟨_, rfl⟩
      have hmin2 : min (ss.length : Int) 6 = (nn : Int) := by omega
      have hn6 : nn ≤ 6 := by omega
      have hns : nn ≤ ss.length := by omega
      have p0 : wr.cell? ⟨b, o + k, none⟩ = some (.slice A2 ss.length c2) := ((hs1.trans (hbl.mono hs1s)).cell (p := ⟨b, o + k, none⟩) (by simp; omega)).trans hcell
      obtain ⟨bt1, hv1, hb1⟩ := bits_low x k 1 hx0 hx (by omega)
      have hv1 : bits .and .u16 (x / 2 ^ k) 1 = (bt1 : Int) := hv1
      have hblk : Hid (∀ (op : Bool), (op = false → nn = 1) → ∀ rest, setsGo false [] [] (ws ++ blk op ((ss.take nn).map nsW) ++ rest) = setsGo false [] ((rs.take (k + 1)).map nsR) rest) := by
        intro op hop rest
        rw [List.append_assoc, hsets.out, nsR_min ss nn hnn, go_blk op (nsR ss) _ rest (nsR_no ss) (fun h => by
          have := hop h
          rw [nsR, List.length_map, List.length_take]
          omega), takeR_snoc rs k ss hss]
      have hopen : Hid (∀ ws0, ws0 = ws ++ [wd [91]] → ∀ rest, setsGo false [] [] (ws0 ++ (ss.take nn).map nsW ++ [wd [93]] ++ rest) = setsGo false [] ((rs.take (k + 1)).map nsR) rest) := by
        intro ws0 h0 rest
        have := hblk.out true (by simp) rest
        rw [h0, ← this]
        simp [blk]
      have hshut : Hid (nn = 1 → ∀ rest, setsGo false [] [] (ws ++ (ss.take nn).map nsW ++ rest) = setsGo false [] ((rs.take (k + 1)).map nsR) rest) := by
        intro h1 rest
        have := hblk.out false (fun _ => h1) rest
        rw [← this]
        simp [blk]
      have zk : (k : Int) < (n : Int) := by omega
      have zk0 : (0 : Int) ≤ (k : Int) := by omega
      have zk16 : (k : Int) < 16 := by omega
      clear hblk hnn hc hss hP
      have hcase : (Hid (nn = 1) ∧ ((nn : Int) != 1) = false ∧ bits .and .u16 (x / 2 ^ k) 1 = 0) ∨ (((nn : Int) != 1) = true) ∨ (((nn : Int) != 1) = false ∧ bits .and .u16 (x / 2 ^ k) 1 = 1) := by
        by_cases h1 : nn = 1
        · rcases (by omega : bt1 = 0 ∨ bt1 = 1) with rfl | rfl
          · exact .inl ⟨h1, by simp [h1], hv1⟩
          · exact .inr (.inr ⟨by simp [h1], hv1⟩)
        · exact .inr (.inl (by rw [bne_iff_ne]; omega))
      clear hv1 hb1
      rcases hcase with ⟨hnn1, t1, t2⟩ | t1 | ⟨t1, t2⟩
      · have hshut := Lib.hid (hshut.out hnn1.out)
        clear hopen hnn1
        obtain ⟨ws0, hws0⟩ : ∃ ws0, ws = ws0 := ⟨_, rfl⟩
        subst hws0
        obtain ⟨ws0, hws0⟩ : ∃ ws0, ws0 = ws := ⟨_, rfl⟩
        subst hws0
        have hlws0 : ws0.length ≤ 8 * k + 1 := by omega
        have ho0 := how
        have hb0 := hbl
        have hfin := hshut
        clear how hbl hsets
        go_wp2_with fail
        go_loopw [8, 13] (fun v i wr => ∃ j : Nat, j ≤ nn ∧ i = .int .i64 j ∧ wr.ownsRow w1.heap.size 35 3 v (ws0.length + j) (c3s (ws0 ++ (ss.take j).map nsW)) ∧ Below w1.heap.size w1 wr) (fun _ i _ => nn - (intOf i).toNat)
        case atStart => exact ⟨0, by omega, rfl, by simpa using ho0, hb0⟩
        case round =>
          obtain ⟨j, hj, rfl, hoj, hbj⟩ := hrel
          have hjs := hbj.size
          obtain ⟨A5, c5, rfl, -⟩ := Rd.of_own hoj
          by_cases hjl : j < nn
          · have hjs2 : j < ss.length := by omega
            obtain ⟨b2, o2, t, rfl, hb2, hp2, qq⟩ := hrd2.atS hjs2
            have hbwr : Below w.heap.size w wr := hs1.trans (hbj.mono hs1s)
            have p1 : wr.cell? ⟨b, o + k, none⟩ = some (.slice (some ⟨b2, o2, none⟩) ss.length c2) := (hbwr.cell (p := ⟨b, o + k, none⟩) (by simp; omega)).trans hcell
            have p2 : wr.cell? ⟨b2, o2 + j, none⟩ = some (.string ⟨t.toArray⟩) := (hbwr.cell (p := ⟨b2, o2 + j, none⟩) (by simp; omega)).trans qq
            have htl : t.length ≤ 9223372036854775807 := by
              have := hlens t (List.mem_of_getElem? hp2.out)
              unfold maxLen at this
              omega
            have zj : (j : Int) < (ss.length : Int) := by omega
            have hN := Lib.hid (nameW_ok wr t htl)
            have hsn : Hid ((ss.take (j + 1)).map nsW = (ss.take j).map nsW ++ [wd (nameL t)]) := by
              show _ = _
              obtain ⟨h1, h2⟩ := List.getElem?_eq_some_iff.1 hp2.out
              rw [List.take_succ_eq_append_getElem h1, h2, List.map_append]
              rfl
            have hwl : ws0.length + j ≤ 200 := by omega
            generalize nameL t = T at *
            go_wp2_with (first | (go_at_call 21; refine hN.out.mono ?_; rintro e w' ⟨rfl, rfl⟩) | (at_builtin; refine wpList_append_any _ rfl (.tmp 58) (.tmp 68) 32 rfl w1.heap.size 35 i0 _ 3 32 Tryd.underlying32 hi0 hz0 hz1 hz2 rfl (by decide) (.slice A5 (ws0.length + j) c5) (ws0.length + j) _ rfl (hoj.alloc _) (wr.heap.size + 1) (some ⟨wr.heap.size, 0, none⟩) 1 1 [.int .i64 0, .int .i64 0, .string ⟨T.toArray⟩] rfl (by exact Rd.newAt _ _ (by simp) #[.int .i64 0, .int .i64 0, .string ⟨T.toArray⟩] 35 1 3 rfl) (by simp [Value.oneCell']) (by simp only [maxLen]; omega) (by omega) (by simp; omega) ?_; intro v2 w2 hown2 hg2 _; obtain ⟨A3, c3, rfl, -⟩ := Rd.of_own hown2))
            go_roundw
            case rel =>
              refine ⟨j + 1, by omega, by simp, ?_, (hbj.alloc (by omega) _).grown hg2 (by simp; omega) (fun g hg => (hoj.lt g hg).1)⟩
              rw [hsn.out, ← List.append_assoc, c3s_append]
              exact hown2
            case measure => simp [intOf]; omega
          · obtain rfl : j = nn := by omega
            go_wp2_with fail
            go_roundw
            case rel =>
              refine ⟨k + 1, ws0 ++ (ss.take j).map nsW, by omega, by simp, ?_, hbj, hfin.out, ?_⟩
              · rw [show (ws0 ++ (ss.take j).map nsW).length = ws0.length + j by simp; omega]
                exact hoj
              · have := hlws0
                simp
                omega
            case measure => simp [intOf]; omega
      · clear hshut
        go_wp2_with (at_builtin; refine wpList_append_any _ rfl (.tmp 49) (.tmp 51) 32 rfl w1.heap.size 35 i0 _ 3 32 Tryd.underlying32 hi0 hz0 hz1 hz2 rfl (by decide) (.slice A1 ws.length c1) ws.length (c3s ws) rfl (how.alloc _) (wr.heap.size + 1) (some ⟨wr.heap.size, 0, none⟩) 1 1 [.int .i64 0, .int .i64 0, .string ⟨#[91]⟩] rfl (by exact Rd.newAt _ _ (by simp) #[.int .i64 0, .int .i64 0, .string ⟨#[91]⟩] 35 1 3 rfl) (by simp [Value.oneCell']) (by simp only [maxLen]; omega) (by omega) (by simp; omega) ?_; intro v2 w2 hown2 hg2 _; obtain ⟨A3, c3, rfl, -⟩ := Rd.of_own hown2)
        have hbW : Below w1.heap.size w1 w2 := (hbl.alloc (by omega) _).grown hg2 (by simp; omega) (fun g hg => (how.lt g hg).1)
        obtain ⟨ws0, hws0⟩ : ∃ ws0, ws ++ [wd [91]] = ws0 := ⟨_, rfl⟩
        have hlws0 : ws0.length ≤ 8 * k + 1 := by rw [← hws0]; simp; omega
        have ho0 : w2.ownsRow w1.heap.size 35 3 (.slice A3 (ws.length + 1) c3) ws0.length (c3s ws0) := by
          rw [← hws0, c3s_append, List.length_append]
          exact hown2
        have hl0 : ws.length + 1 = ws0.length := by rw [← hws0]; simp
        rw [hl0] at ho0 ⊢
        have hfin : Hid (∀ rest, setsGo false [] [] (ws0 ++ (ss.take nn).map nsW ++ [wd [93]] ++ rest) = setsGo false [] ((rs.take (k + 1)).map nsR) rest) := hopen.out ws0 hws0.symm
        have hb0 := hbW
        clear hown2 hg2 hws0 hl0 how hbl hsets hopen
        go_loopw [8, 13] (fun v i wr => ∃ j : Nat, j ≤ nn ∧ i = .int .i64 j ∧ wr.ownsRow w1.heap.size 35 3 v (ws0.length + j) (c3s (ws0 ++ (ss.take j).map nsW)) ∧ Below w1.heap.size w1 wr) (fun _ i _ => nn - (intOf i).toNat)
        case atStart => exact ⟨0, by omega, rfl, by simpa using ho0, hb0⟩
        case round =>
          obtain ⟨j, hj, rfl, hoj, hbj⟩ := hrel
          have hjs := hbj.size
          obtain ⟨A5, c5, rfl, -⟩ := Rd.of_own hoj
          by_cases hjl : j < nn
          · have hjs2 : j < ss.length := by omega
            obtain ⟨b2, o2, t, rfl, hb2, hp2, qq⟩ := hrd2.atS hjs2
            have hbwr : Below w.heap.size w wr := hs1.trans (hbj.mono hs1s)
            have p1 : wr.cell? ⟨b, o + k, none⟩ = some (.slice (some ⟨b2, o2, none⟩) ss.length c2) := (hbwr.cell (p := ⟨b, o + k, none⟩) (by simp; omega)).trans hcell
            have p2 : wr.cell? ⟨b2, o2 + j, none⟩ = some (.string ⟨t.toArray⟩) := (hbwr.cell (p := ⟨b2, o2 + j, none⟩) (by simp; omega)).trans qq
            have htl : t.length ≤ 9223372036854775807 := by
              have := hlens t (List.mem_of_getElem? hp2.out)
              unfold maxLen at this
              omega
            have zj : (j : Int) < (ss.length : Int) := by omega
            have hN := Lib.hid (nameW_ok wr t htl)
            have hsn : Hid ((ss.take (j + 1)).map nsW = (ss.take j).map nsW ++ [wd (nameL t)]) := by
              show _ = _
              obtain ⟨h1, h2⟩ := List.getElem?_eq_some_iff.1 hp2.out
              rw [List.take_succ_eq_append_getElem h1, h2, List.map_append]
              rfl
            have hwl : ws0.length + j ≤ 200 := by omega
            generalize nameL t = T at *
            go_wp2_with (first | (go_at_call 21; refine hN.out.mono ?_; rintro e w' ⟨rfl, rfl⟩) | (at_builtin; refine wpList_append_any _ rfl (.tmp 58) (.tmp 68) 32 rfl w1.heap.size 35 i0 _ 3 32 Tryd.underlying32 hi0 hz0 hz1 hz2 rfl (by decide) (.slice A5 (ws0.length + j) c5) (ws0.length + j) _ rfl (hoj.alloc _) (wr.heap.size + 1) (some ⟨wr.heap.size, 0, none⟩) 1 1 [.int .i64 0, .int .i64 0, .string ⟨T.toArray⟩] rfl (by exact Rd.newAt _ _ (by simp) #[.int .i64 0, .int .i64 0, .string ⟨T.toArray⟩] 35 1 3 rfl) (by simp [Value.oneCell']) (by simp only [maxLen]; omega) (by omega) (by simp; omega) ?_; intro v2 w2 hown2 hg2 _; obtain ⟨A3, c3, rfl, -⟩ := Rd.of_own hown2))
            go_roundw
            case rel =>
              refine ⟨j + 1, by omega, by simp, ?_, (hbj.alloc (by omega) _).grown hg2 (by simp; omega) (fun g hg => (hoj.lt g hg).1)⟩
              rw [hsn.out, ← List.append_assoc, c3s_append]
              exact hown2
            case measure => simp [intOf]; omega
          · obtain rfl : j = nn := by omega
            have hwl : ws0.length + j ≤ 200 := by omega
            go_wp2_with (at_builtin; refine wpList_append_any _ rfl (.tmp 71) (.tmp 73) 32 rfl w1.heap.size 35 i0 _ 3 32 Tryd.underlying32 hi0 hz0 hz1 hz2 rfl (by decide) (.slice A5 (ws0.length + j) c5) (ws0.length + j) _ rfl (hoj.alloc _) (wr.heap.size + 1) (some ⟨wr.heap.size, 0, none⟩) 1 1 [.int .i64 0, .int .i64 0, .string ⟨#[93]⟩] rfl (by exact Rd.newAt _ _ (by simp) #[.int .i64 0, .int .i64 0, .string ⟨#[93]⟩] 35 1 3 rfl) (by simp [Value.oneCell']) (by simp only [maxLen]; omega) (by omega) (by simp; omega) ?_; intro v2 w2 hown2 hg2 _; obtain ⟨A3, c3, rfl, -⟩ := Rd.of_own hown2)
            go_roundw
            case rel =>
              refine ⟨k + 1, ws0 ++ (ss.take j).map nsW ++ [wd [93]], by omega, by simp, ?_, (hbj.alloc (by omega) _).grown hg2 (by simp; omega) (fun g hg => (hoj.lt g hg).1), hfin.out, ?_⟩
              · rw [c3s_append, show (ws0 ++ (ss.take j).map nsW ++ [wd [93]]).length = ws0.length + j + 1 by simp; omega]
                exact hown2
              · have := hlws0
                simp
                omega
            case measure => simp [intOf]; omega
      · clear hshut
        go_wp2_with (at_builtin; refine wpList_append_any _ rfl (.tmp 49) (.tmp 51) 32 rfl w1.heap.size 35 i0 _ 3 32 Tryd.underlying32 hi0 hz0 hz1 hz2 rfl (by decide) (.slice A1 ws.length c1) ws.length (c3s ws) rfl (how.alloc _) (wr.heap.size + 1) (some ⟨wr.heap.size, 0, none⟩) 1 1 [.int .i64 0, .int .i64 0, .string ⟨#[91]⟩] rfl (by exact Rd.newAt _ _ (by simp) #[.int .i64 0, .int .i64 0, .string ⟨#[91]⟩] 35 1 3 rfl) (by simp [Value.oneCell']) (by simp only [maxLen]; omega) (by omega) (by simp; omega) ?_; intro v2 w2 hown2 hg2 _; obtain ⟨A3, c3, rfl, -⟩ := Rd.of_own hown2)
        have hbW : Below w1.heap.size w1 w2 := (hbl.alloc (by omega) _).grown hg2 (by simp; omega) (fun g hg => (how.lt g hg).1)
        obtain ⟨ws0, hws0⟩ : ∃ ws0, ws ++ [wd [91]] = ws0 := ⟨_, rfl⟩
        have hlws0 : ws0.length ≤ 8 * k + 1 := by rw [← hws0]; simp; omega
        have ho0 : w2.ownsRow w1.heap.size 35 3 (.slice A3 (ws.length + 1) c3) ws0.length (c3s ws0) := by
          rw [← hws0, c3s_append, List.length_append]
          exact hown2
        have hl0 : ws.length + 1 = ws0.length := by rw [← hws0]; simp
        rw [hl0] at ho0 ⊢
        have hfin : Hid (∀ rest, setsGo false [] [] (ws0 ++ (ss.take nn).map nsW ++ [wd [93]] ++ rest) = setsGo false [] ((rs.take (k + 1)).map nsR) rest) := hopen.out ws0 hws0.symm
        have hb0 := hbW
        clear hown2 hg2 hws0 hl0 how hbl hsets hopen
        go_loopw [8, 13] (fun v i wr => ∃ j : Nat, j ≤ nn ∧ i = .int .i64 j ∧ wr.ownsRow w1.heap.size 35 3 v (ws0.length + j) (c3s (ws0 ++ (ss.take j).map nsW)) ∧ Below w1.heap.size w1 wr) (fun _ i _ => nn - (intOf i).toNat)
        case atStart => exact ⟨0, by omega, rfl, by simpa using ho0, hb0⟩
        case round =>
          obtain ⟨j, hj, rfl, hoj, hbj⟩ := hrel
          have hjs := hbj.size
          obtain ⟨A5, c5, rfl, -⟩ := Rd.of_own hoj
          by_cases hjl : j < nn
          · have hjs2 : j < ss.length := by omega
            obtain ⟨b2, o2, t, rfl, hb2, hp2, qq⟩ := hrd2.atS hjs2
            have hbwr : Below w.heap.size w wr := hs1.trans (hbj.mono hs1s)
            have p1 : wr.cell? ⟨b, o + k, none⟩ = some (.slice (some ⟨b2, o2, none⟩) ss.length c2) := (hbwr.cell (p := ⟨b, o + k, none⟩) (by simp; omega)).trans hcell
            have p2 : wr.cell? ⟨b2, o2 + j, none⟩ = some (.string ⟨t.toArray⟩) := (hbwr.cell (p := ⟨b2, o2 + j, none⟩) (by simp; omega)).trans qq
            have htl : t.length ≤ 9223372036854775807 := by
              have := hlens t (List.mem_of_getElem? hp2.out)
              unfold maxLen at this
              omega
            have zj : (j : Int) < (ss.length : Int) := by omega
            have hN := Lib.hid (nameW_ok wr t htl)
            have hsn : Hid ((ss.take (j + 1)).map nsW = (ss.take j).map nsW ++ [wd (nameL t)]) := by
              show _ = _
              obtain ⟨h1, h2⟩ := List.getElem?_eq_some_iff.1 hp2.out
              rw [List.take_succ_eq_append_getElem h1, h2, List.map_append]
              rfl
            have hwl : ws0.length + j ≤ 200 := by omega
            generalize nameL t = T at *
            go_wp2_with (first | (go_at_call 21; refine hN.out.mono ?_; rintro e w' ⟨rfl, rfl⟩) | (at_builtin; refine wpList_append_any _ rfl (.tmp 58) (.tmp 68) 32 rfl w1.heap.size 35 i0 _ 3 32 Tryd.underlying32 hi0 hz0 hz1 hz2 rfl (by decide) (.slice A5 (ws0.length + j) c5) (ws0.length + j) _ rfl (hoj.alloc _) (wr.heap.size + 1) (some ⟨wr.heap.size, 0, none⟩) 1 1 [.int .i64 0, .int .i64 0, .string ⟨T.toArray⟩] rfl (by exact Rd.newAt _ _ (by simp) #[.int .i64 0, .int .i64 0, .string ⟨T.toArray⟩] 35 1 3 rfl) (by simp [Value.oneCell']) (by simp only [maxLen]; omega) (by omega) (by simp; omega) ?_; intro v2 w2 hown2 hg2 _; obtain ⟨A3, c3, rfl, -⟩ := Rd.of_own hown2))
            go_roundw
            case rel =>
              refine ⟨j + 1, by omega, by simp, ?_, (hbj.alloc (by omega) _).grown hg2 (by simp; omega) (fun g hg => (hoj.lt g hg).1)⟩
              rw [hsn.out, ← List.append_assoc, c3s_append]
              exact hown2
            case measure => simp [intOf]; omega
          · obtain rfl : j = nn := by omega
            have hwl : ws0.length + j ≤ 200 := by omega
            go_wp2_with (at_builtin; refine wpList_append_any _ rfl (.tmp 71) (.tmp 73) 32 rfl w1.heap.size 35 i0 _ 3 32 Tryd.underlying32 hi0 hz0 hz1 hz2 rfl (by decide) (.slice A5 (ws0.length + j) c5) (ws0.length + j) _ rfl (hoj.alloc _) (wr.heap.size + 1) (some ⟨wr.heap.size, 0, none⟩) 1 1 [.int .i64 0, .int .i64 0, .string ⟨#[93]⟩] rfl (by exact Rd.newAt _ _ (by simp) #[.int .i64 0, .int .i64 0, .string ⟨#[93]⟩] 35 1 3 rfl) (by simp [Value.oneCell']) (by simp only [maxLen]; omega) (by omega) (by simp; omega) ?_; intro v2 w2 hown2 hg2 _; obtain ⟨A3, c3, rfl, -⟩ := Rd.of_own hown2)
            go_roundw
            case rel =>
              refine ⟨k + 1, ws0 ++ (ss.take j).map nsW ++ [wd [93]], by omega, by simp, ?_, (hbj.alloc (by omega) _).grown hg2 (by simp; omega) (fun g hg => (hoj.lt g hg).1), hfin.out, ?_⟩
              · rw [c3s_append, show (ws0 ++ (ss.take j).map nsW ++ [wd [93]]).length = ws0.length + j + 1 by simp; omega]
                exact hown2
              · have := hlws0
                simp
                omega
            case measure => simp [intOf]; omega
    · obtain rfl : k = mm := by omega
      have hset : Hid (setsL ws = some ((rs.take k).map nsR)) := by
        have := hsets.out []
        rw [List.append_nil] at this
        show setsL ws = _
        rw [setsL, this]
        rfl
      have hrl : ((rs.take k).map nsR).length = k := by
        rw [List.length_map, List.length_take, hr.1]
        omega
      have hget : Hid (∀ (i : Nat) (ss : List B), i < k → rs[i]? = some ss → ((rs.take k).map nsR)[i]? = some (nsR ss)) := by
        intro i ss hi hss
        rw [List.getElem?_map, List.getElem?_take_of_lt hi, hss]
        rfl
      have hbw : Below w.heap.size w wr := hs1.trans (hbl.mono hs1s)
      have hS := Lib.hid (sets_ok wr ws wr.heap.size A1 ws.length c1 hrdA (Nat.le_refl _) (by omega))
      have hmore := Lib.hid (setsL_more ws _ hset.out)
      generalize (rs.take k).map nsR = rows at *
      have Hrd := Lib.hid hrdA
      have Hc1 : Hid (ws.length ≤ c1) := own_cap how
      clear hP how hsets hrdA hlt
      go_wp2_with fail
      refine hS.out.mono ?_
      rintro e w2 hpost
      unfold SetsPost at hpost
      rw [hset.out] at hpost
      obtain ⟨v2, rfl, hret2⟩ := hpost
      obtain ⟨A3, c3, rfl, hat3, hb2⟩ := RowsAt.of hret2
      rw [hrl]
      have hbw2 := btR hbw hb2
      have Hat3 := Lib.hid hat3
      have hset2 := hset
      clear hret2 hat3 hset
      go_wp2_with fail
      go_loopw [16] (fun i wr => ∃ k2 q : Nat, k2 ≤ k ∧ i = .int .i64 k2 ∧ wr = w2.drewN q) (fun i _ => k - (intOf i).toNat)
      case atStart => exact ⟨0, 0, by omega, rfl, rfl⟩
      case round =>
        obtain ⟨k2, q, hk2, rfl, rfl⟩ := hrel
        by_cases hlt : k2 < k
        · have hkn : k2 < n := by omega
          obtain ⟨ss, hss⟩ : ∃ ss, rs[k2]? = some ss := ⟨_, List.getElem?_eq_getElem (by rw [hr.1]; omega)⟩
          obtain ⟨b, o, rfl, hbB, hc⟩ := hr.2 (by omega)
          obtain ⟨A2, c2, hcell, hc2, hc2m, hrd2, hlens⟩ := hc k2 ss hss
          obtain ⟨b4, o4, rfl, hb4, hc4⟩ := Hat3.out (by omega)
          obtain ⟨A4, c4, p1, hrd4⟩ := hc4 k2 _ (hget.out k2 ss hlt hss)
          have hssl : ss.length ≤ 9223372036854775807 := by unfold maxLen at hc2m; omega
          obtain ⟨nn, hnn⟩ : ∃ nn : Nat, nn = min ss.length 6 := ⟨_, rfl⟩
          have hmin2 : min (ss.length : Int) 6 = (nn : Int) := by omega
          have hn6 : nn ≤ 6 := by omega
          have hns : nn ≤ ss.length := by omega
          have hrn : (nsR ss).length = nn := by rw [nsR, List.length_map, List.length_take]; omega
          have hrj : Hid (∀ (j : Nat) (t : B), j < nn → ss[j]? = some t → (nsR ss)[j]? = some (0, 0, nameL t)) := by
            intro j t hj ht
            rw [← nsR_min ss nn hnn, List.getElem?_map, List.getElem?_take_of_lt hj, ht]
            rfl
          rw [hrn] at p1 hrd4
          have p0 : w2.cell? ⟨b, o + k2, none⟩ = some (.slice A2 ss.length c2) := (hbw2.cell (p := ⟨b, o + k2, none⟩) (by simp; omega)).trans hcell
          generalize nsR ss = r at *
          have zk : (k2 : Int) < (n : Int) := by omega
          have zk' : (k2 : Int) < (k : Int) := by omega
          have zk0 : (0 : Int) ≤ (k2 : Int) := by omega
          have Hrd4 := Lib.hid hrd4
          have Hrd2 := Lib.hid hrd2
          have Hlens := Lib.hid hlens
          clear hc hc4 hss hcell hrd4 hrd2 hlens hnn
          go_wp2_with fail
          go_quiet (fail)
          go_wp2_with fail
          go_loopw [17] (fun i wr => ∃ j q : Nat, j ≤ nn ∧ i = .int .i64 j ∧ wr = w2.drewN q) (fun i _ => nn - (intOf i).toNat)
          case atStart => exact ⟨0, q + nq, by omega, rfl, World.drewN_drewN ..⟩
          case round =>
            obtain ⟨j, q2, hj, rfl, rfl⟩ := hrel
            by_cases hjl : j < nn
            · have hjs2 : j < ss.length := by omega
              obtain ⟨b2, o2, t, rfl, hb2', hp2, qq⟩ := Hrd2.out.atS hjs2
              have htl : t.length ≤ 9223372036854775807 := by
                have := Hlens.out t (List.mem_of_getElem? hp2.out)
                unfold maxLen at this
                omega
              have p2 : w2.cell? ⟨b2, o2 + j, none⟩ = some (.string ⟨t.toArray⟩) := (hbw2.cell (p := ⟨b2, o2 + j, none⟩) (by simp; omega)).trans qq
              obtain ⟨b5, o5, rfl, hb5, x1, x2, x3⟩ := Hrd4.out.at3 (hrj.out j t hjl hp2.out)
              dsimp only at x1 x2 x3
              have zj : (j : Int) < (ss.length : Int) := by omega
              have zj' : (j : Int) < (nn : Int) := by omega
              have zj0 : (0 : Int) ≤ (j : Int) := by omega
              have hN := Lib.hid (fun w => nameW_ok w t htl)
              generalize nameL t = T at *
              clear hp2 qq
              go_wp2_with fail
              go_quiet ((go_at_call 21; exact quietR (hN.out _)))
              go_wp2_with fail
              go_roundw
              case rel => exact ⟨j + 1, _, by omega, by go_num, rfl⟩
              case measure => simp [intOf]; omega
            · go_wp2_with fail
              go_roundw
              case rel => exact ⟨k2 + 1, _, by omega, by go_num, rfl⟩
              case measure => simp [intOf]; omega
        · clear hget Hat3
          have hz8 := z.toNat_lt
          obtain ⟨at', hat⟩ : ∃ at' : Nat, at' = z.toNat / 2 % (ws.length + 1) := ⟨_, rfl⟩
          have hatl : at' ≤ ws.length := by
            have := Nat.mod_lt (z.toNat / 2) (show 0 < ws.length + 1 by omega)
            omega
          have hatI : Int.tmod ((z.toNat : Int) / 2) ((ws.length : Int) + 1) = (at' : Int) := by
            rw [hat]
            rw [Int.tmod_eq_emod_of_nonneg (by omega)]
            push_cast
            rfl
          have hx1 : ws.length ≤ 96 := by omega
          have hk2e : ¬ ((k2 : Int) < (k : Int)) := by omega
          obtain ⟨br, hbr, hbit⟩ : ∃ br : UInt8, (br = 91 ∨ br = 93) ∧ ((br = 93 ∧ bits .and .u8 (z.toNat : Int) 1 = 1) ∨ (br = 91 ∧ bits .and .u8 (z.toNat : Int) 1 = 0)) := by
            rw [bits_one z]
            rcases (by omega : z.toNat % 2 = 1 ∨ z.toNat % 2 = 0) with h | h
            · exact ⟨93, .inr rfl, .inl ⟨rfl, by omega⟩⟩
            · exact ⟨91, .inl rfl, .inr ⟨rfl, by omega⟩⟩
          clear hlt
          have hatI2 : (z.toNat : Int) / 2 % ((ws.length : Int) + 1) = (at' : Int) := by
            rw [hat]
            push_cast
            rfl
          clear hatI hat
          obtain ⟨W0, hW0⟩ : ∃ W0, w2.drewN q = W0 := ⟨_, rfl⟩
          have hbW0 : Below w.heap.size w W0 := by rw [← hW0]; exact below_drewN hbw2 q
          have hrdW0 : Rd W0 wr.heap.size A1 ws.length 3 (c3s ws) := by rw [← hW0]; exact (Hrd.out.below hb2 (Nat.le_refl _)).drewN q
          have hszW0 : wr.heap.size ≤ W0.heap.size := by rw [← hW0]; exact hb2.size
          rw [hW0]
          have hc1 : ws.length ≤ c1 := Hc1.out
          obtain ⟨B1, hB1⟩ : ∃ B1, (if c1 = 0 then A1 else A1.map (·.add (0 * 3))) = B1 := ⟨_, rfl⟩
          obtain ⟨B2, hB2⟩ : ∃ B2, (if c1 = at' then A1 else A1.map (·.add (at' * 3))) = B2 := ⟨_, rfl⟩
          have s1 := fun V => run_slice_to V A1 ws.length c1 at' (by omega)
          have s2 := fun V => run_slice_from V A1 ws.length c1 at' hatl
          have hsl := rd_slices W0 _ A1 ws c1 at' hrdW0 hc1 hatl
          rw [hB1] at s1 hsl
          rw [hB2] at s2 hsl
          have hruns := Lib.hid (more_runs W0.drew _ ws at' br hatl (by omega) B1 c1 hsl.1.drew B2 (c1 - at') hsl.2.drew hszW0)
          clear hsl hrdW0 hB1 hB2 hW0 Hrd hwl
          rcases hbit with ⟨rfl, hbit⟩ | ⟨rfl, hbit⟩
          · go_wp2_with fail
            obtain ⟨⟨a3, d3, V3, r13, a4, d4, V4, a5, d5, V5, r14, r15, h15⟩, ⟨e3, f3, U3, r23, e4, f4, U4, e5, f5, U5, r24, r25, h25⟩, ⟨g3, l3, T3, r33, g4, l4, T4, g5, l5, T5, r34, r35, h35⟩⟩ := hruns.out
            have r13 : (Builtin.append_ #[32, 32] 32 #[.slice (some ⟨W0.heap.size, 0, none⟩) 0 0, .slice B1 at' c1]).run Tryd.prog (W0.alloc (.cells #[] 35)).drew = .ok (.slice a3 at' d3) V3 := r13
            have r14 : (Builtin.append_ #[32, 32] 32 #[.slice a3 at' d3, .slice (some ⟨V3.heap.size, 0, none⟩) 1 1]).run Tryd.prog (V3.alloc (.cells #[.int .i64 0, .int .i64 0, .string ⟨#[93]⟩] 35)) = .ok (.slice a4 (at' + 1) d4) V4 := r14
            have r23 : (Builtin.append_ #[32, 32] 32 #[.slice (some ⟨W0.heap.size, 0, none⟩) 0 0, .slice B1 at' c1]).run Tryd.prog ((W0.alloc (.cells #[] 35)).alloc (.cells #[.int .i64 0, .int .i64 0, .string ⟨#[93]⟩] 35)).drew = .ok (.slice e3 at' f3) U3 := r23
            have r24 : (Builtin.append_ #[32, 32] 32 #[.slice e3 at' f3, .slice (some ⟨W0.heap.size + 1, 0, none⟩) 1 1]).run Tryd.prog U3 = .ok (.slice e4 (at' + 1) f4) U4 := r24
            have r33 : (Builtin.append_ #[32, 32] 32 #[.slice (some ⟨W0.heap.size + 1, 0, none⟩) 0 0, .slice B1 at' c1]).run Tryd.prog ((W0.alloc (.cells #[.int .i64 0, .int .i64 0, .string ⟨#[93]⟩] 35)).alloc (.cells #[] 35)).drew = .ok (.slice g3 at' l3) T3 := r33
            have r34 : (Builtin.append_ #[32, 32] 32 #[.slice g3 at' l3, .slice (some ⟨W0.heap.size, 0, none⟩) 1 1]).run Tryd.prog T3 = .ok (.slice g4 (at' + 1) l4) T4 := r34
            go_region
            all_goals first
             | (
               refine (id : Exit.then _ _ _ _ V5 → Exit.then _ _ _ _ V5) ?_
               obtain ⟨A9, c9, e9, hrd9, hb9⟩ := h15
               injection e9 with q1 _ q2
               subst q1 q2
               have hb9' : Below w.heap.size w V5 := btR (show Below w.heap.size w W0.drew from hbW0.drew) hb9
               have hS9 := Lib.hid (sets_ok V5 _ V5.heap.size a5 (ws.length + 1) d5 hrd9 (Nat.le_refl _) (by omega))
               clear hb9 hrd9 r13 r14 r15 r23 r24 r25 r33 r34 r35 hbW0 s1 s2
               go_wp2_with fail
               refine hS9.out.mono ?_
               rintro e w9 hpost
               unfold SetsPost at hpost
               rw [hmore.out at' _ (by simp [wd])] at hpost
               obtain ⟨rfl, hb10⟩ := hpost
               have hb11 := btR hb9' hb10
               clear hb10 hb9'
               go_wp2_with fail
               go_ret
               exact ⟨rfl, hb11⟩)
             | (
               refine (id : Exit.then _ _ _ _ U5 → Exit.then _ _ _ _ U5) ?_
               obtain ⟨A9, c9, e9, hrd9, hb9⟩ := h25
               injection e9 with q1 _ q2
               subst q1 q2
               have hb9' : Below w.heap.size w U5 := btR (show Below w.heap.size w W0.drew from hbW0.drew) hb9
               have hS9 := Lib.hid (sets_ok U5 _ U5.heap.size e5 (ws.length + 1) f5 hrd9 (Nat.le_refl _) (by omega))
               clear hb9 hrd9 r13 r14 r15 r23 r24 r25 r33 r34 r35 hbW0 s1 s2
               go_wp2_with fail
               refine hS9.out.mono ?_
               rintro e w9 hpost
               unfold SetsPost at hpost
               rw [hmore.out at' _ (by simp [wd])] at hpost
               obtain ⟨rfl, hb10⟩ := hpost
               have hb11 := btR hb9' hb10
               clear hb10 hb9'
               go_wp2_with fail
               go_ret
               exact ⟨rfl, hb11⟩)
             | (
               refine (id : Exit.then _ _ _ _ T5 → Exit.then _ _ _ _ T5) ?_
               obtain ⟨A9, c9, e9, hrd9, hb9⟩ := h35
               injection e9 with q1 _ q2
               subst q1 q2
               have hb9' : Below w.heap.size w T5 := btR (show Below w.heap.size w W0.drew from hbW0.drew) hb9
               have hS9 := Lib.hid (sets_ok T5 _ T5.heap.size g5 (ws.length + 1) l5 hrd9 (Nat.le_refl _) (by omega))
               clear hb9 hrd9 r13 r14 r15 r23 r24 r25 r33 r34 r35 hbW0 s1 s2
               go_wp2_with fail
               refine hS9.out.mono ?_
               rintro e w9 hpost
               unfold SetsPost at hpost
               rw [hmore.out at' _ (by simp [wd])] at hpost
               obtain ⟨rfl, hb10⟩ := hpost
               have hb11 := btR hb9' hb10
               clear hb10 hb9'
               go_wp2_with fail
               go_ret
               exact ⟨rfl, hb11⟩)
          · go_wp2_with fail
            obtain ⟨⟨a3, d3, V3, r13, a4, d4, V4, a5, d5, V5, r14, r15, h15⟩, ⟨e3, f3, U3, r23, e4, f4, U4, e5, f5, U5, r24, r25, h25⟩, ⟨g3, l3, T3, r33, g4, l4, T4, g5, l5, T5, r34, r35, h35⟩⟩ := hruns.out
            have r13 : (Builtin.append_ #[32, 32] 32 #[.slice (some ⟨W0.heap.size, 0, none⟩) 0 0, .slice B1 at' c1]).run Tryd.prog (W0.alloc (.cells #[] 35)).drew = .ok (.slice a3 at' d3) V3 := r13
            have r14 : (Builtin.append_ #[32, 32] 32 #[.slice a3 at' d3, .slice (some ⟨V3.heap.size, 0, none⟩) 1 1]).run Tryd.prog (V3.alloc (.cells #[.int .i64 0, .int .i64 0, .string ⟨#[91]⟩] 35)) = .ok (.slice a4 (at' + 1) d4) V4 := r14
            have r23 : (Builtin.append_ #[32, 32] 32 #[.slice (some ⟨W0.heap.size, 0, none⟩) 0 0, .slice B1 at' c1]).run Tryd.prog ((W0.alloc (.cells #[] 35)).alloc (.cells #[.int .i64 0, .int .i64 0, .string ⟨#[91]⟩] 35)).drew = .ok (.slice e3 at' f3) U3 := r23
            have r24 : (Builtin.append_ #[32, 32] 32 #[.slice e3 at' f3, .slice (some ⟨W0.heap.size + 1, 0, none⟩) 1 1]).run Tryd.prog U3 = .ok (.slice e4 (at' + 1) f4) U4 := r24
            have r33 : (Builtin.append_ #[32, 32] 32 #[.slice (some ⟨W0.heap.size + 1, 0, none⟩) 0 0, .slice B1 at' c1]).run Tryd.prog ((W0.alloc (.cells #[.int .i64 0, .int .i64 0, .string ⟨#[91]⟩] 35)).alloc (.cells #[] 35)).drew = .ok (.slice g3 at' l3) T3 := r33
            have r34 : (Builtin.append_ #[32, 32] 32 #[.slice g3 at' l3, .slice (some ⟨W0.heap.size, 0, none⟩) 1 1]).run Tryd.prog T3 = .ok (.slice g4 (at' + 1) l4) T4 := r34
            go_region
            all_goals first
             | (
               refine (id : Exit.then _ _ _ _ V5 → Exit.then _ _ _ _ V5) ?_
               obtain ⟨A9, c9, e9, hrd9, hb9⟩ := h15
               injection e9 with q1 _ q2
               subst q1 q2
               have hb9' : Below w.heap.size w V5 := btR (show Below w.heap.size w W0.drew from hbW0.drew) hb9
               have hS9 := Lib.hid (sets_ok V5 _ V5.heap.size a5 (ws.length + 1) d5 hrd9 (Nat.le_refl _) (by omega))
               clear hb9 hrd9 r13 r14 r15 r23 r24 r25 r33 r34 r35 hbW0 s1 s2
               go_wp2_with fail
               refine hS9.out.mono ?_
               rintro e w9 hpost
               unfold SetsPost at hpost
               rw [hmore.out at' _ (by simp [wd])] at hpost
               obtain ⟨rfl, hb10⟩ := hpost
               have hb11 := btR hb9' hb10
               clear hb10 hb9'
               go_wp2_with fail
               go_ret
               exact ⟨rfl, hb11⟩)
             | (
               refine (id : Exit.then _ _ _ _ U5 → Exit.then _ _ _ _ U5) ?_
               obtain ⟨A9, c9, e9, hrd9, hb9⟩ := h25
               injection e9 with q1 _ q2
               subst q1 q2
               have hb9' : Below w.heap.size w U5 := btR (show Below w.heap.size w W0.drew from hbW0.drew) hb9
               have hS9 := Lib.hid (sets_ok U5 _ U5.heap.size e5 (ws.length + 1) f5 hrd9 (Nat.le_refl _) (by omega))
               clear hb9 hrd9 r13 r14 r15 r23 r24 r25 r33 r34 r35 hbW0 s1 s2
               go_wp2_with fail
               refine hS9.out.mono ?_
               rintro e w9 hpost
               unfold SetsPost at hpost
               rw [hmore.out at' _ (by simp [wd])] at hpost
               obtain ⟨rfl, hb10⟩ := hpost
               have hb11 := btR hb9' hb10
               clear hb10 hb9'
               go_wp2_with fail
               go_ret
               exact ⟨rfl, hb11⟩)
             | (
               refine (id : Exit.then _ _ _ _ T5 → Exit.then _ _ _ _ T5) ?_
               obtain ⟨A9, c9, e9, hrd9, hb9⟩ := h35
               injection e9 with q1 _ q2
               subst q1 q2
               have hb9' : Below w.heap.size w T5 := btR (show Below w.heap.size w W0.drew from hbW0.drew) hb9
               have hS9 := Lib.hid (sets_ok T5 _ T5.heap.size g5 (ws.length + 1) l5 hrd9 (Nat.le_refl _) (by omega))
               clear hb9 hrd9 r13 r14 r15 r23 r24 r25 r33 r34 r35 hbW0 s1 s2
               go_wp2_with fail
               refine hS9.out.mono ?_
               rintro e w9 hpost
               unfold SetsPost at hpost
               rw [hmore.out at' _ (by simp [wd])] at hpost
               obtain ⟨rfl, hb10⟩ := hpost
               have hb11 := btR hb9' hb10
               clear hb10 hb9'
               go_wp2_with fail
               go_ret
               exact ⟨rfl, hb11⟩)
theorem wordsRows_row (w : World) (A : Option Addr) (n c : Nat) (rs : List (List (List UInt8))) (hr : StrsAt w A n rs) (hc : n ≤ c) (hm : c ≤ maxLen) (x : Int) (hx : (Lit.int .u16 x).wf = true) (y : Int) (hy : (Lit.int .u8 y).wf = true) :
    Calls Tryd.prog 8 #[.slice A n c, .int .u16 x, .int .u8 y] w fun e w' => e = .returned (.bool true) ∧ Below w.heap.size w w' := by
  have h1 : 0 ≤ x ∧ x ≤ 65535 := by have := hx; simp [Lit.wf] at this; exact this
  have h2 : 0 ≤ y ∧ y ≤ 255 := by have := hy; simp [Lit.wf] at this; exact this
  have e : y = ((UInt8.ofNat y.toNat).toNat : Int) := by
    rw [UInt8.toNat_ofNat']
    omega
  rw [e]
  exact wordsRows_ok w A n c rs hr hc hm x h1.1 h1.2 _
end Go.Proofs.YtccnogdfnikioaaDoor

