/- parse: instructions, points, calls of a statement's words. Printed by gen_pae.py. -/
import Derived.Test.YtkijckccfookeaaGreatDoorM11
namespace Go.Proofs.YtkijckccfookeaaGreatDoor
open Go.RowKit

def starB (t : B) : Bool := t.getLast? == some 42
theorem suf_eq (t : B) : Lib.trimSuffix t [42] = unStar t ∧ Lib.hasSuffix t [42] = starB t := by
  have hs : Lib.hasSuffix t [42] = starB t := by
    rw [Lib.hasSuffix, starB, Bool.eq_iff_iff, List.isSuffixOf_iff_suffix, beq_iff_eq]
    constructor
    · rintro ⟨r, rfl⟩
      exact List.getLast?_concat
    · intro h
      obtain ⟨r, hr⟩ := List.getLast?_eq_some_iff.1 h
      exact ⟨r, hr.symm⟩
  refine ⟨?_, hs⟩
  rw [Lib.trimSuffix, hs, unStar, starB]
  by_cases h : t.getLast? = some 42
  · rw [if_pos h, if_pos (by simpa using h), List.dropLast_eq_take]
    rfl
  · rw [if_neg h, if_neg (by simpa using h)]
theorem cutSuf_ok (w : World) (t : B) (ht : t.length ≤ 1000000) : Calls Tryz.prog 171 #[.string ⟨t.toArray⟩, .string ⟨#[42]⟩] w fun e w' => e = .returned (.tuple #[.string ⟨(unStar t).toArray⟩, .bool (starB t)]) ∧ w = w' := by
  obtain ⟨e1, e2⟩ := suf_eq t
  refine (Tryz.strings_CutSuffix ⟨t.toArray⟩ ⟨#[42]⟩ w (by show t.length ≤ _; omega)).mono ?_
  rintro e w' ⟨h1, h2⟩
  refine ⟨?_, h2.symm⟩
  rw [h1, ← e1, ← e2]
theorem unStar_len (t : B) : (unStar t).length ≤ t.length := by
  unfold unStar
  split
  · simp
  · exact Nat.le_refl _
theorem cutL_len (c : UInt8) (t : B) : (cutL c t).length ≤ t.length := (List.takeWhile_prefix (l := t) (fun x => x != c)).length_le
theorem cutR_len (c : UInt8) (t : B) : (cutR c t).length ≤ t.length := by
  unfold cutR
  have := (List.dropWhile_suffix (l := t) (fun x => x != c)).length_le
  simp
  omega
theorem fold_snoc (f : Int → B → Int) {l m : List B} {z : B} (err : Int) (h : m = l ++ [z]) : m.foldl f err = f (l.foldl f err) z := by subst h; simp
def insC (l : List Ins) : List Value := l.flatMap fun i => [.int .i64 i.op, .int .i64 i.a]
def ptC (l : List Pt) : List Value := l.flatMap fun i => [.int .i64 i.x, .int .i64 i.y, .bool i.on]
def callC (l : List Call) : List Value := l.flatMap fun i => [.int .i64 i.at', .int .i64 i.lookup]
theorem Rdr.drewN {w : World} {rb p : Nat} {err : Int} (h : Rdr w rb p err) (n : Nat) : Rdr (w.drewN n) rb p err := h
theorem Bk.newAt (W : World) (h : Nat) (hh : W.heap.size = h) {t : TypeId} {cs : Array Value} : Bk (W.alloc (.cells cs t)) h t cs := by subst hh; exact Bk.new _ _ _
theorem Bk.kept2 {w w' : World} {rb g : Nat} (hg : w.grownBy w' (some rb)) {t : TypeId} {cs : Array Value} (h : Bk w g t cs) (hne : g ≠ rb) : Bk w' g t cs := (hg.block g h.lt (fun e => by injection e with e; exact hne e)).trans h
/-- the tables' variables lie ahead of this place -/
def nT : Nat := 3 + 1
/-- the tables that parse leans on -/
structure PTabs (w : World) : Prop where
  ops : TabS w 0 (strs opNames)
  anch : TabS w 2 (strs anchorNames)
  kinds : TabS w 3 (strs kindNames)
theorem TabS.keep {w w' : World} {g : Nat} {cs : List Value} (h : TabS w g cs) (hk : w'.heap[g]? = w.heap[g]?) : TabS w' g cs := by
  obtain ⟨t, fz, h⟩ := h
  exact ⟨t, fz, hk.trans h⟩
theorem PTabs.grown {w w' : World} {row : Option Nat} (h : PTabs w) (hg : w.grownBy w' row) (hr : ∀ g, row = some g → nT ≤ g) : PTabs w' := by
  unfold nT at hr
  refine ⟨h.ops.keep (hg.block _ h.ops.lt fun e => ?_), h.anch.keep (hg.block _ h.anch.lt fun e => ?_), h.kinds.keep (hg.block _ h.kinds.lt fun e => ?_)⟩ <;> (have := hr _ e.symm; omega)
theorem PTabs.below {w w' : World} (h : PTabs w) (hb : Below w.heap.size w w') : PTabs w' := h.grown (row := none) (only_of_below hb none) (fun g e => by cases e)
theorem map_snoc {α : Type} {l m : List B} {z : B} (f : B → α) (h : m = l ++ [z]) : m.map f = l.map f ++ [f z] := by subst h; simp
set_option maxRecDepth 100000 in
set_option maxHeartbeats 4000000 in
theorem calls_ok (w : World) (rb p : Nat) (err : Int) (A : Option Addr) (n c : Nat) (ws : List P3) (hR : Rdr w rb p err) (hw : RdT w 124 A n 3 (c3s ws)) (hl : ∀ x ∈ ws, x.2.2.length ≤ 1000000) (hn : n ≤ 1000000000) :
    Calls Tryz.prog 174 #[.pointer (some ⟨rb, 0, none⟩), .slice A n c] w (RetR 95 2 w rb p ((txts ws).foldl eCall err) n (callC ((txts ws).map vCall))) := by
  have hwl := Lib.hid hw.rd.len3
  have HR := Lib.hid hR
  have HW := Lib.hid hw
  have HL := Lib.hid hl
  clear hR hw hl
  go_enter Tryz.func174, Tryz.ntmps174
  go_wp2
  go_loopw [5, 14] (fun v i wr => ∃ k : Nat, k ≤ n ∧ i = .int .i64 k ∧ RRow 95 2 w rb p (((txts ws).take k).foldl eCall err) k (callC (((txts ws).take k).map vCall)) v wr) (fun _ i _ => n - (intOf i).toNat)
  case atStart => exact ⟨0, Nat.zero_le _, rfl, RRow.start HR.out (World.grownBy.refl _ _)⟩
  case round =>
    obtain ⟨k, hk, rfl, A4, c4, rfl, ho, hr, hg⟩ := hrel
    by_cases hlt : k < n
    · obtain ⟨b, o, x, y, z, rfl, hp, q1, q2, q3⟩ := word_at HW.out HR.out hg hlt
      have hz : z.length ≤ 1000000 := HL.out _ (c3s_word hp.out)
      have hs := txts_snoc hp.out
      have hs1 := Lib.hid (map_snoc vCall hs)
      have hs2 := Lib.hid (fold_snoc eCall err hs)
      have hr0 := Lib.hid hr
      have HG := Lib.hid hg
      have hsz := hg.size
      have hrb : rb < wr.heap.size := hr.lt
      have hcs : Hid (callC (((txts ws).take k).map vCall ++ [vCall z]) = callC (((txts ws).take k).map vCall) ++ callC [vCall z]) := by show _ = _; simp [callC]
      rw [← hs1.out] at hcs
      generalize callC (((txts ws).take k).map vCall) = xs at *
      generalize ((txts ws).take k).foldl eCall err = er at *
      have hx := Nat.le_trans (cutL_len 58 z) hz
      have hy := Nat.le_trans (cutR_len 58 z) hz
      have hc1 := Lib.hid (fun w => cut_ok w z 58 hz)
      have hn1 := Lib.hid (fun w h => number_ok w rb p er (cutL 58 z) h hx)
      have hn2 := Lib.hid (fun w h => number_ok w rb p (eNum er (cutL 58 z)) (cutR 58 z) h hy)
      have hes : Hid (eCall er z = eNum (eNum er (cutL 58 z)) (cutR 58 z)) := rfl
      have hvs : Hid (callC [vCall z] = [.int .i64 (numV (cutL 58 z)), .int .i64 (numV (cutR 58 z))]) := rfl
      generalize hr1e : eNum er (cutL 58 z) = er1 at *
      generalize hr2e : eNum er1 (cutR 58 z) = er2 at *
      generalize numV (cutL 58 z) = v1 at *
      generalize numV (cutR 58 z) = v2 at *
      clear hp hs hz hr hx hy hr1e hr2e hg
      go_wp2_with (go_at_call 168; refine (hc1.out _).mono ?_; rintro e w1 ⟨rfl, nd, rfl⟩)
      go_wp2_with fail
      refine (hn1.out _ (by exact ((hr0.out.alloc _).drewN nd).alloc _)).mono ?_
      rintro e w2 ⟨rfl, hr2, hg2⟩
      have hg02 : wr.grownBy w2 (some rb) := grown_tr (only_alloc (only_drewN (World.grownBy_alloc wr _ _) nd) _) hg2
      have B1 : Bk w2 (wr.heap.size + 1) 95 #[.int .i64 0, .int .i64 0] := Bk.kept2 hg2 (Bk.newAt _ _ (by simp)) (by simp; omega)
      have c0 := B1.cell 0
      have f0 := B1.frozen 0
      have z2 := B1.lt
      simp only [List.getElem?_toArray, List.getElem?_cons_zero] at c0
      have HB1 := Lib.hid B1
      have Hg2 := Lib.hid hg02
      have Hr2 := Lib.hid hr2
      clear B1 hg02 hr2 hg2
      go_wp2_with fail
      refine (hn2.out _ (by exact Bk.far Hr2.out (by simp; omega) _)).mono ?_
      rintro e w3 ⟨rfl, hr3, hg3⟩
      have hg03 : wr.grownBy w3 (some rb) := grown_tr (only_setCell Hg2.out (.inr (by simp)) _) hg3
      have B2 : Bk w3 (wr.heap.size + 1) 95 #[.int .i64 v1, .int .i64 0] := Bk.kept2 hg3 (HB1.out.set 0 _) (by simp; omega)
      have d0 : w3.cell? ⟨wr.heap.size + 1, 0, none⟩ = some (.int .i64 v1) := B2.cell 0
      have d1 : w3.cell? ⟨wr.heap.size + 1, 1, none⟩ = some (.int .i64 0) := B2.cell 1
      have g1 := B2.frozen 1
      have z3 := B2.lt
      have Hg3 := Lib.hid hg03
      have Hr3 := Lib.hid hr3
      clear B2 hg03 hr3 hg3
      go_wp2_with (at_builtin; refine push_l elCall rfl (.tmp 33) (.tmp 35) rfl (w3.setCell ⟨wr.heap.size + 1, 1, none⟩ (.int .i64 v2)) w3.heap.size (by simp) w.heap.size k c4 A4 xs #[.int .i64 v1, .int .i64 v2] rfl rfl rfl (ho.kept (only_setCell Hg3.out (.inr (by simp)) _) (own_ne_bk ho hr0.out (by decide))) (by simp [Value.oneCell']) (by omega) (by simp; omega) ?_; intro A5 c5 w4 ho4 hg4 _)
      go_roundw
      case rel => exact ⟨k + 1, by omega, by simp, by rw [hs2.out, hes.out, hcs.out, hvs.out]; exact RRow.next ho hr0.out HG.out (Bk.far Hr3.out (by simp; omega) _) (only_setCell Hg3.out (.inr (by simp)) _) ho4 hg4 (by decide)⟩
      case measure => simp [intOf]; omega
    · obtain rfl : k = n := by omega
      have ht : Hid ((txts ws).take k = txts ws) := by show _ = _; exact List.take_of_length_le (by rw [txts_len, hwl.out]; exact Nat.le_refl _)
      rw [ht.out] at ho hr
      go_wp2
      go_ret
      exact ⟨_, rfl, A4, c4, rfl, ho, hr, hg⟩
set_option maxRecDepth 100000 in
set_option maxHeartbeats 4000000 in
theorem points_ok (w : World) (rb p : Nat) (err : Int) (A : Option Addr) (n c : Nat) (ws : List P3) (hR : Rdr w rb p err) (hw : RdT w 124 A n 3 (c3s ws)) (hl : ∀ x ∈ ws, x.2.2.length ≤ 1000000) (hn : n ≤ 1000000000) :
    Calls Tryz.prog 131 #[.pointer (some ⟨rb, 0, none⟩), .slice A n c] w (RetR 139 3 w rb p ((txts ws).foldl ePt err) n (ptC ((txts ws).map vPt))) := by
  have hwl := Lib.hid hw.rd.len3
  have HR := Lib.hid hR
  have HW := Lib.hid hw
  have HL := Lib.hid hl
  clear hR hw hl
  go_enter Tryz.func131, Tryz.ntmps131
  go_wp2
  go_loopw [5, 16] (fun v i wr => ∃ k : Nat, k ≤ n ∧ i = .int .i64 k ∧ RRow 139 3 w rb p (((txts ws).take k).foldl ePt err) k (ptC (((txts ws).take k).map vPt)) v wr) (fun _ i _ => n - (intOf i).toNat)
  case atStart => exact ⟨0, Nat.zero_le _, rfl, RRow.start HR.out (World.grownBy.refl _ _)⟩
  case round =>
    obtain ⟨k, hk, rfl, A4, c4, rfl, ho, hr, hg⟩ := hrel
    by_cases hlt : k < n
    · obtain ⟨b, o, x, y, z, rfl, hp, q1, q2, q3⟩ := word_at HW.out HR.out hg hlt
      have hz : z.length ≤ 1000000 := HL.out _ (c3s_word hp.out)
      have hs := txts_snoc hp.out
      have hs1 := Lib.hid (map_snoc vPt hs)
      have hs2 := Lib.hid (fold_snoc ePt err hs)
      have hr0 := Lib.hid hr
      have HG := Lib.hid hg
      have hsz := hg.size
      have hrb : rb < wr.heap.size := hr.lt
      have hcs : Hid (ptC (((txts ws).take k).map vPt ++ [vPt z]) = ptC (((txts ws).take k).map vPt) ++ ptC [vPt z]) := by show _ = _; simp [ptC]
      rw [← hs1.out] at hcs
      generalize ptC (((txts ws).take k).map vPt) = xs at *
      generalize ((txts ws).take k).foldl ePt err = er at *
      have hu := Nat.le_trans (unStar_len z) hz
      have hx := Nat.le_trans (cutL_len 44 (unStar z)) hu
      have hy := Nat.le_trans (cutR_len 44 (unStar z)) hu
      have hc0 := Lib.hid (fun w => cutSuf_ok w z hz)
      have hc1 := Lib.hid (fun w => cut_ok w (unStar z) 44 hu)
      have hn1 := Lib.hid (fun w h => number_ok w rb p er (cutL 44 (unStar z)) h hx)
      have hn2 := Lib.hid (fun w h => number_ok w rb p (eNum er (cutL 44 (unStar z))) (cutR 44 (unStar z)) h hy)
      have hes : Hid (ePt er z = eNum (eNum er (cutL 44 (unStar z))) (cutR 44 (unStar z))) := rfl
      have hvs : Hid (ptC [vPt z] = [.int .i64 (numV (cutL 44 (unStar z))), .int .i64 (numV (cutR 44 (unStar z))), .bool (!starB z)]) := rfl
      generalize hr1e : eNum er (cutL 44 (unStar z)) = er1 at *
      generalize hr2e : eNum er1 (cutR 44 (unStar z)) = er2 at *
      generalize numV (cutL 44 (unStar z)) = v1 at *
      generalize numV (cutR 44 (unStar z)) = v2 at *
      generalize starB z = sb at *
      clear hp hs hz hr hx hy hr1e hr2e hg hu
      go_wp2_with (go_at_call 171; refine (hc0.out _).mono ?_; rintro e w0 ⟨rfl, rfl⟩)
      go_wp2_with (go_at_call 168; refine (hc1.out _).mono ?_; rintro e w1 ⟨rfl, nd, rfl⟩)
      go_wp2_with fail
      refine (hn1.out _ (by exact ((hr0.out.alloc _).drewN nd).alloc _)).mono ?_
      rintro e w2 ⟨rfl, hr2, hg2⟩
      have hg02 : wr.grownBy w2 (some rb) := grown_tr (only_alloc (only_drewN (World.grownBy_alloc wr _ _) nd) _) hg2
      have B1 : Bk w2 (wr.heap.size + 1) 139 #[.int .i64 0, .int .i64 0, .bool (!sb)] := Bk.kept2 hg2 (Bk.newAt _ _ (by simp)) (by simp; omega)
      have c0 : w2.cell? ⟨wr.heap.size + 1, 0, none⟩ = some (.int .i64 0) := B1.cell 0
      have f0 := B1.frozen 0
      have z2 := B1.lt
      have HB1 := Lib.hid B1
      have Hg2 := Lib.hid hg02
      have Hr2 := Lib.hid hr2
      clear B1 hg02 hr2 hg2
      go_wp2_with fail
      refine (hn2.out _ (by exact Bk.far Hr2.out (by simp; omega) _)).mono ?_
      rintro e w3 ⟨rfl, hr3, hg3⟩
      have hg03 : wr.grownBy w3 (some rb) := grown_tr (only_setCell Hg2.out (.inr (by simp)) _) hg3
      have B2 : Bk w3 (wr.heap.size + 1) 139 #[.int .i64 v1, .int .i64 0, .bool (!sb)] := Bk.kept2 hg3 (HB1.out.set 0 _) (by simp; omega)
      have d0 : w3.cell? ⟨wr.heap.size + 1, 0, none⟩ = some (.int .i64 v1) := B2.cell 0
      have d1 : w3.cell? ⟨wr.heap.size + 1, 1, none⟩ = some (.int .i64 0) := B2.cell 1
      have d2 : w3.cell? ⟨wr.heap.size + 1, 2, none⟩ = some (.bool (!sb)) := B2.cell 2
      have g1 := B2.frozen 1
      have z3 := B2.lt
      have Hg3 := Lib.hid hg03
      have Hr3 := Lib.hid hr3
      clear B2 hg03 hr3 hg3
      go_wp2_with (at_builtin; refine push_l elPt rfl (.tmp 43) (.tmp 45) rfl (w3.setCell ⟨wr.heap.size + 1, 1, none⟩ (.int .i64 v2)) w3.heap.size (by simp) w.heap.size k c4 A4 xs #[.int .i64 v1, .int .i64 v2, .bool (!sb)] rfl rfl rfl (ho.kept (only_setCell Hg3.out (.inr (by simp)) _) (own_ne_bk ho hr0.out (by decide))) (by simp [Value.oneCell']) (by omega) (by simp; omega) ?_; intro A5 c5 w4 ho4 hg4 _)
      go_roundw
      case rel => exact ⟨k + 1, by omega, by simp, by rw [hs2.out, hes.out, hcs.out, hvs.out]; exact RRow.next ho hr0.out HG.out (Bk.far Hr3.out (by simp; omega) _) (only_setCell Hg3.out (.inr (by simp)) _) ho4 hg4 (by decide)⟩
      case measure => simp [intOf]; omega
    · obtain rfl : k = n := by omega
      have ht : Hid ((txts ws).take k = txts ws) := by show _ = _; exact List.take_of_length_le (by rw [txts_len, hwl.out]; exact Nat.le_refl _)
      rw [ht.out] at ho hr
      go_wp2
      go_ret
      exact ⟨_, rfl, A4, c4, rfl, ho, hr, hg⟩
set_option maxRecDepth 100000 in
set_option maxHeartbeats 4000000 in
theorem ops_ok (w : World) (rb p : Nat) (err : Int) (A : Option Addr) (n c : Nat) (ws : List P3) (hT : PTabs w) (hrb0 : nT ≤ rb) (hR : Rdr w rb p err) (hw : RdT w 124 A n 3 (c3s ws)) (hl : ∀ x ∈ ws, x.2.2.length ≤ 1000000) (hn : n ≤ 1000000000) :
    Calls Tryz.prog 126 #[.pointer (some ⟨rb, 0, none⟩), .slice A n c] w (RetR 61 2 w rb p ((txts ws).foldl eOp err) n (insC ((txts ws).map vOp))) := by
  have hwl := Lib.hid hw.rd.len3
  have HR := Lib.hid hR
  have HW := Lib.hid hw
  have HL := Lib.hid hl
  clear hR hw hl
  go_enter Tryz.func126, Tryz.ntmps126
  go_wp2
  go_loopw [5, 16] (fun v i wr => ∃ k : Nat, k ≤ n ∧ i = .int .i64 k ∧ RRow 61 2 w rb p (((txts ws).take k).foldl eOp err) k (insC (((txts ws).take k).map vOp)) v wr) (fun _ i _ => n - (intOf i).toNat)
  case atStart => exact ⟨0, Nat.zero_le _, rfl, RRow.start HR.out (World.grownBy.refl _ _)⟩
  case round =>
    obtain ⟨k, hk, rfl, A4, c4, rfl, ho, hr, hg⟩ := hrel
    by_cases hlt : k < n
    · obtain ⟨b, o, x, y, z, rfl, hp, q1, q2, q3⟩ := word_at HW.out HR.out hg hlt
      have hz : z.length ≤ 1000000 := HL.out _ (c3s_word hp.out)
      have hs := txts_snoc hp.out
      have hs1 := Lib.hid (map_snoc vOp hs)
      have hs2 := Lib.hid (fold_snoc eOp err hs)
      have hr0 := Lib.hid hr
      have HG := Lib.hid hg
      have hsz := hg.size
      have hrb : rb < wr.heap.size := hr.lt
      have hcs : Hid (insC (((txts ws).take k).map vOp ++ [vOp z]) = insC (((txts ws).take k).map vOp) ++ insC [vOp z]) := by show _ = _; simp [insC]
      rw [← hs1.out] at hcs
      generalize insC (((txts ws).take k).map vOp) = xs at *
      generalize ((txts ws).take k).foldl eOp err = er at *
      have hy := Nat.le_trans (cutR_len 58 z) hz
      have hT0 := hT.grown hg (fun g e => by cases e; exact hrb0)
      have HT1 : Hid (∀ nd, PTabs ((wr.alloc (.cells #[.int .i64 x, .int .i64 y, .string ⟨z.toArray⟩] 124)).drewN nd)) := fun nd => hT0.below (below_drewN ((Below.refl _ _).alloc (Nat.le_refl _) _) nd)
      have hc1 := Lib.hid (fun w => cut_ok w z 58 hz)
      have hop : Hid (∀ w, PTabs w → _) := Lib.hid (fun w (h : PTabs w) => parseOp_ok w (cutL 58 z) h.ops)
      have hes0 : Hid (eOp er z = if hasB 58 z then eNum (if er = 0 ∧ opN (cutL 58 z) = 0 then 23 else er) (cutR 58 z) else if er = 0 ∧ opN (cutL 58 z) = 0 then 23 else er) := rfl
      have hvs0 : Hid (insC [vOp z] = [.int .i64 (opN (cutL 58 z)), .int .i64 (if hasB 58 z then numV (cutR 58 z) else 0)]) := rfl
      have hn0 := Lib.hid (fun w er h => number_ok w rb p er (cutR 58 z) h hy)
      generalize hopv : opN (cutL 58 z) = opv at *
      clear hp hs hz hr hy hg hT0 hopv
      by_cases ho0 : opv = 0
      · have hok : Hid ((opv != 0) = false) := by show _ = _; simp [ho0]
        have hec : (if er = 0 ∧ opv = 0 then (23 : Int) else er) = eC er 23 := by rw [eC]; simp [ho0]
        rw [hec] at hes0
        clear ho0 hec
        cases hsb : hasB 58 z
        · have hsm : Hid (hasB 58 z = false) := hsb
          rw [hsb] at hes0 hvs0
          have hes : Hid (eOp er z = eC er 23) := hes0.out
          have hvs : Hid (insC [vOp z] = [.int .i64 opv, .int .i64 0]) := hvs0.out
          clear hsb hes0 hvs0
          go_wp2_with (go_at_call 168; refine (hc1.out _).mono ?_; rintro e w1 ⟨rfl, nd, rfl⟩; rw [hsm.out])
          go_wp2_with (go_at_call 25; refine (hop.out _ (by exact HT1.out nd)).mono ?_; rintro e w1 ⟨rfl, rfl⟩; rw [hok.out])
          go_wp2_with fail
          refine (fail_ok _ rb p er 23 (by exact (hr0.out.alloc _).drewN nd)).mono ?_
          rintro e w2 ⟨rfl, hr2, hg2⟩
          have hg02 : wr.grownBy w2 (some rb) := grown_tr (only_drewN (World.grownBy_alloc wr _ _) nd) hg2
          have z2 := hg02.size
          have Hg2 := Lib.hid hg02
          have Hr2 := Lib.hid hr2
          clear hg02 hr2 hg2
          go_wp2_with (at_builtin; refine push_l elIns rfl (.tmp 43) (.tmp 45) rfl (w2.alloc (.cells #[.int .i64 opv, .int .i64 0] 61)) (w2.heap.size + 1) (by simp) w.heap.size k c4 A4 xs #[.int .i64 opv, .int .i64 0] rfl rfl rfl (ho.kept (only_alloc Hg2.out _) (own_ne_bk ho hr0.out (by decide))) (by simp [Value.oneCell']) (by omega) (by simp; omega) ?_; intro A5 c5 w4 ho4 hg4 _)
          go_roundw
          case rel => exact ⟨k + 1, by omega, by simp, by rw [hs2.out, hes.out, hcs.out, hvs.out]; exact RRow.next ho hr0.out HG.out (Hr2.out.alloc _) (only_alloc Hg2.out _) ho4 hg4 (by decide)⟩
          case measure => simp [intOf]; omega
        · have hsm : Hid (hasB 58 z = true) := hsb
          rw [hsb] at hes0 hvs0
          have hes : Hid (eOp er z = eNum (eC er 23) (cutR 58 z)) := hes0.out
          have hvs : Hid (insC [vOp z] = [.int .i64 opv, .int .i64 (numV (cutR 58 z))]) := hvs0.out
          have hn2 := Lib.hid (fun w h => hn0.out w (eC er 23) h)
          generalize eNum (eC er 23) (cutR 58 z) = er2 at *
          generalize numV (cutR 58 z) = v2 at *
          clear hsb hes0 hvs0
          go_wp2_with (go_at_call 168; refine (hc1.out _).mono ?_; rintro e w1 ⟨rfl, nd, rfl⟩; rw [hsm.out])
          go_wp2_with (go_at_call 25; refine (hop.out _ (by exact HT1.out nd)).mono ?_; rintro e w1 ⟨rfl, rfl⟩; rw [hok.out])
          go_wp2_with fail
          refine (fail_ok _ rb p er 23 (by exact (hr0.out.alloc _).drewN nd)).mono ?_
          rintro e w2 ⟨rfl, hr2, hg2⟩
          have hg02 : wr.grownBy w2 (some rb) := grown_tr (only_drewN (World.grownBy_alloc wr _ _) nd) hg2
          have z2 := hg02.size
          have Hg2 := Lib.hid hg02
          have Hr2 := Lib.hid hr2
          clear hg02 hr2 hg2
          go_wp2_with fail
          refine (hn2.out _ (by exact Hr2.out.alloc _)).mono ?_
          rintro e w3 ⟨rfl, hr3, hg3⟩
          have hg03 : wr.grownBy w3 (some rb) := grown_tr (only_alloc Hg2.out _) hg3
          have B2 : Bk w3 w2.heap.size 61 #[.int .i64 opv, .int .i64 0] := Bk.kept2 hg3 (Bk.new _ _ _) (by omega)
          have d0 : w3.cell? ⟨w2.heap.size, 0, none⟩ = some (.int .i64 opv) := B2.cell 0
          have d1 : w3.cell? ⟨w2.heap.size, 1, none⟩ = some (.int .i64 0) := B2.cell 1
          have g1 := B2.frozen 1
          have z3 := B2.lt
          have Hg3 := Lib.hid hg03
          have Hr3 := Lib.hid hr3
          clear B2 hg03 hr3 hg3
          go_wp2_with (at_builtin; refine push_l elIns rfl (.tmp 43) (.tmp 45) rfl (w3.setCell ⟨w2.heap.size, 1, none⟩ (.int .i64 v2)) w3.heap.size (by simp) w.heap.size k c4 A4 xs #[.int .i64 opv, .int .i64 v2] rfl rfl rfl (ho.kept (only_setCell Hg3.out (.inr (by simp; omega)) _) (own_ne_bk ho hr0.out (by decide))) (by simp [Value.oneCell']) (by omega) (by simp; omega) ?_; intro A5 c5 w4 ho4 hg4 _)
          go_roundw
          case rel => exact ⟨k + 1, by omega, by simp, by rw [hs2.out, hes.out, hcs.out, hvs.out]; exact RRow.next ho hr0.out HG.out (Bk.far Hr3.out (by simp; omega) _) (only_setCell Hg3.out (.inr (by simp; omega)) _) ho4 hg4 (by decide)⟩
          case measure => simp [intOf]; omega
      · have hok : Hid ((opv != 0) = true) := by show _ = _; simpa using ho0
        have hec : (if er = 0 ∧ opv = 0 then (23 : Int) else er) = er := if_neg (fun h => ho0 h.2)
        rw [hec] at hes0
        clear ho0 hec
        cases hsb : hasB 58 z
        · have hsm : Hid (hasB 58 z = false) := hsb
          rw [hsb] at hes0 hvs0
          have hes : Hid (eOp er z = er) := hes0.out
          have hvs : Hid (insC [vOp z] = [.int .i64 opv, .int .i64 0]) := hvs0.out
          clear hsb hes0 hvs0
          go_wp2_with (go_at_call 168; refine (hc1.out _).mono ?_; rintro e w1 ⟨rfl, nd, rfl⟩; rw [hsm.out])
          go_wp2_with (first
            | (go_at_call 25; refine (hop.out _ (by exact HT1.out nd)).mono ?_; rintro e w1 ⟨rfl, rfl⟩; rw [hok.out])
            | (at_builtin; refine push_l elIns rfl (.tmp 43) (.tmp 45) rfl ((((wr.alloc (.cells #[.int .i64 x, .int .i64 y, .string ⟨z.toArray⟩] 124)).drewN nd)).alloc (.cells #[.int .i64 opv, .int .i64 0] 61)) (wr.heap.size + 1 + 1) (by simp) w.heap.size k c4 A4 xs #[.int .i64 opv, .int .i64 0] rfl rfl rfl (ho.kept (only_alloc (only_drewN (World.grownBy_alloc wr _ _) nd) _) (own_ne_bk ho hr0.out (by decide))) (by simp [Value.oneCell']) (by omega) (by simp; omega) ?_; intro A5 c5 w4 ho4 hg4 _))
          go_roundw
          case rel => exact ⟨k + 1, by omega, by simp, by rw [hs2.out, hes.out, hcs.out, hvs.out]; exact RRow.next ho hr0.out HG.out (((hr0.out.alloc _).drewN nd).alloc _) (only_alloc (only_drewN (World.grownBy_alloc wr _ _) nd) _) ho4 hg4 (by decide)⟩
          case measure => simp [intOf]; omega
        · have hsm : Hid (hasB 58 z = true) := hsb
          rw [hsb] at hes0 hvs0
          have hes : Hid (eOp er z = eNum er (cutR 58 z)) := hes0.out
          have hvs : Hid (insC [vOp z] = [.int .i64 opv, .int .i64 (numV (cutR 58 z))]) := hvs0.out
          have hn2 := Lib.hid (fun w h => hn0.out w er h)
          generalize eNum er (cutR 58 z) = er2 at *
          generalize numV (cutR 58 z) = v2 at *
          clear hsb hes0 hvs0
          go_wp2_with (go_at_call 168; refine (hc1.out _).mono ?_; rintro e w1 ⟨rfl, nd, rfl⟩; rw [hsm.out])
          go_wp2_with (go_at_call 25; refine (hop.out _ (by exact HT1.out nd)).mono ?_; rintro e w1 ⟨rfl, rfl⟩; rw [hok.out])
          go_wp2_with fail
          refine (hn2.out _ (by exact ((hr0.out.alloc _).drewN nd).alloc _)).mono ?_
          rintro e w3 ⟨rfl, hr3, hg3⟩
          have hg03 : wr.grownBy w3 (some rb) := grown_tr (only_alloc (only_drewN (World.grownBy_alloc wr _ _) nd) _) hg3
          have B2 : Bk w3 (wr.heap.size + 1) 61 #[.int .i64 opv, .int .i64 0] := Bk.kept2 hg3 (Bk.newAt _ _ (by simp)) (by simp; omega)
          have d0 : w3.cell? ⟨wr.heap.size + 1, 0, none⟩ = some (.int .i64 opv) := B2.cell 0
          have d1 : w3.cell? ⟨wr.heap.size + 1, 1, none⟩ = some (.int .i64 0) := B2.cell 1
          have g1 := B2.frozen 1
          have z3 := B2.lt
          have Hg3 := Lib.hid hg03
          have Hr3 := Lib.hid hr3
          clear B2 hg03 hr3 hg3
          go_wp2_with (at_builtin; refine push_l elIns rfl (.tmp 43) (.tmp 45) rfl (w3.setCell ⟨wr.heap.size + 1, 1, none⟩ (.int .i64 v2)) w3.heap.size (by simp) w.heap.size k c4 A4 xs #[.int .i64 opv, .int .i64 v2] rfl rfl rfl (ho.kept (only_setCell Hg3.out (.inr (by simp)) _) (own_ne_bk ho hr0.out (by decide))) (by simp [Value.oneCell']) (by omega) (by simp; omega) ?_; intro A5 c5 w4 ho4 hg4 _)
          go_roundw
          case rel => exact ⟨k + 1, by omega, by simp, by rw [hs2.out, hes.out, hcs.out, hvs.out]; exact RRow.next ho hr0.out HG.out (Bk.far Hr3.out (by simp; omega) _) (only_setCell Hg3.out (.inr (by simp)) _) ho4 hg4 (by decide)⟩
          case measure => simp [intOf]; omega
    · obtain rfl : k = n := by omega
      have ht : Hid ((txts ws).take k = txts ws) := by show _ = _; exact List.take_of_length_le (by rw [txts_len, hwl.out]; exact Nat.le_refl _)
      rw [ht.out] at ho hr
      go_wp2
      go_ret
      exact ⟨_, rfl, A4, c4, rfl, ho, hr, hg⟩
end Go.Proofs.YtkijckccfookeaaGreatDoor
