/- parse: what comes in the place of each glyph of a set. -/
import Derived.Test.YtkijckccfookeaaGreatDoorM25
import Derived.Test.YtkijckccfookeaaGreatDoorM06
import Derived.OwnWalk
namespace Go.Proofs.YtkijckccfookeaaGreatDoor
open Go.RowKit
attribute [-go_sem] Builtin.append_

/-- the places of the first glyphs -/
def plF (l : List Int) : Int → Option Value := fun x => if x ∈ l then some (.int .i64 (l.idxOf x : Nat)) else none
theorem plF_nil : plF [] = fun _ => none := by funext x; simp [plF]
theorem plF_snoc (l : List Int) (y : Int) (h : y ∉ l) : plF (l ++ [y]) = fun x => if x = y then some (.int .i64 (l.length : Nat)) else plF l x := by
  funext x
  unfold plF
  by_cases hxy : x = y
  · subst hxy
    rw [if_pos (by simp), if_pos rfl, List.idxOf_append, if_neg h]
    simp
  · rw [if_neg hxy]
    by_cases hx : x ∈ l
    · rw [if_pos (by simp [hx]), if_pos hx, List.idxOf_append, if_pos hx]
    · rw [if_neg (by simp [hx, hxy]), if_neg hx]
theorem infoInt : (Tryz.prog.info? 3).map (fun i => (i.zero, i.size, i.bytes)) = some (some (.int .i64 0), 1, 8) := by kernel_rfl
theorem take_snocI {l : List Int} {k : Nat} {x : Int} (h : l[k]? = some x) : l.take (k + 1) = l.take k ++ [x] := by
  rw [List.take_add_one, h]; rfl
theorem zeroI (w : World) : (zeroValue 3).run Tryz.prog w = .ok (.int .i64 0) w := by kernel_rfl
theorem mkMapI (n : Int) (w : World) : (Instr.makeMap 245 (some (.int .i64 n))).run Tryz.prog w = .ok (.map (some w.heap.size)) (w.alloc (.map #[] 0)) := by
  simp [Instr.makeMap, run_underlying Tryz.underlying245, asInt, Result.andThen, newObj, go_sem]
  rfl
def SortPost (w : World) (r : Except Int (List Int)) (e : Ending) (w' : World) : Prop :=
  Below w.heap.size w w' ∧ match r with
    | .error c => e = .returned (.tuple #[.slice none 0 0, .int .i64 c])
    | .ok o => ∃ A' c', e = .returned (.tuple #[.slice A' o.length c', .int .i64 0]) ∧ w'.ownsRow w.heap.size 3 1 (.slice A' o.length c') o.length (cIs o)
def outF (l nm : List Int) (g : Int) : Int := nm.getD (l.idxOf g) 0
theorem not_in_map {w : World} {base M n c : Nat} {A : Option Addr} {xs : List Value} {f : Int → Option Value} (h : MapF embI w M f) (ho : w.ownsRow base 3 1 (.slice A n c) n xs) : some M ≠ (Value.slice A n c).ownBlock := fun e => by
  obtain ⟨cur, hb⟩ := ownBlock_bk ho e.symm
  exact h.not_bk hb
set_option maxRecDepth 100000 in
set_option maxHeartbeats 4000000 in
theorem sortOut_ok (w : World) (A1 A2 A3 : Option Addr) (n1 n2 n3 c1 c2 c3 : Nat) (l st nm : List Int) (hst : st = setOf l) (h1 : Rd w w.heap.size A1 n1 1 (cIs l)) (h2 : Rd w w.heap.size A2 n2 1 (cIs st)) (h3 : Rd w w.heap.size A3 n3 1 (cIs nm)) (k1 : n1 ≤ 1000000000) (k2 : n2 ≤ 1000000000) (k3 : n3 ≤ 1000000000) :
    Calls Tryz.prog 139 #[.slice A1 n1 c1, .slice A2 n2 c2, .slice A3 n3 c3] w (SortPost w (sortOut l nm)) := by
  have l1 := Lib.hid h1.lenI
  have l2 := Lib.hid h2.lenI
  have l3 := Lib.hid h3.lenI
  have R1 := Lib.hid h1
  have R2 := Lib.hid h2
  have R3 := Lib.hid h3
  have HST := Lib.hid hst
  obtain ⟨i0, hi, hz0, hz1, hz2⟩ := info_parts infoInt
  have hmk := mkMapI n1
  clear h1 h2 h3 hst
  go_enter Tryz.func139, Tryz.ntmps139
  go_wp2_with fail
  go_loopw [21] (fun i wr => ∃ k : Nat, k ≤ n1 ∧ i = .int .i64 k ∧ MapF embI wr w.heap.size (plF (l.take k)) ∧ (l.take k).Nodup ∧ Below w.heap.size w wr) (fun i _ => n1 - (intOf i).toNat)
  case atStart => exact ⟨0, Nat.zero_le _, rfl, by rw [List.take_zero, plF_nil]; exact MapF.new embI w, by simp, (Below.refl _ _).alloc (Nat.le_refl _) _⟩
  case round =>
    obtain ⟨k, hk, rfl, hm, hnd, hb⟩ := hrel
    have zm := hm.lt
    by_cases hlt : k < n1
    · obtain ⟨b, o, x, rfl, hbb, hx, q1⟩ := R1.out.atI hlt
      have q2 : wr.cell? ⟨b, o + k, none⟩ = some (.int .i64 x) := ((bcell hb).1 _ _ hbb).trans q1
      have hlk := hm.look2 Tryz.underlying245 Tryz.underlying3 (zeroI wr) x
      have hlk2 : (Instr.lookup 245 (.map (some w.heap.size)) (.int .i64 x) true).run Tryz.prog wr = .ok (.tuple #[(plF (l.take k) x).getD (.int .i64 0), .bool (plF (l.take k) x).isSome]) wr := hlk
      have hsn := take_snocI hx.out
      by_cases hin : x ∈ l.take k
      · have hp : plF (l.take k) x = some (.int .i64 ((l.take k).idxOf x : Nat)) := if_pos hin
        rw [hp] at hlk2
        simp only [Option.getD_some, Option.isSome_some] at hlk2
        have HR : Hid (sortOut l nm = .error 24) := by
          show _ = _
          unfold sortOut
          rw [if_pos]
          intro hnd2
          have : (l.take (k + 1)).Nodup := hnd2.sublist (List.take_sublist _ _)
          rw [hsn, List.nodup_append] at this
          exact this.2.2 x hin x (by simp) rfl
        have HB := Lib.hid hb
        clear hm hnd hb hlk hsn hin hp hx q1
        go_wp2_with fail
        go_ret2
        refine ⟨HB.out, ?_⟩
        rw [HR.out]
        rfl
      · have hp : plF (l.take k) x = none := if_neg hin
        rw [hp] at hlk2
        simp only [Option.getD_none, Option.isSome_none] at hlk2
        obtain ⟨w2, hput, hm2, hg2⟩ := hm.put Tryz.underlying245 Tryz.underlying3 x (.int .i64 (k : Nat)) hp
        have hput2 : (Instr.mapUpdate 245 (.map (some w.heap.size)) (.int .i64 x) (.int .i64 (k : Nat))).run Tryz.prog wr = .ok () w2 := hput
        have hlen : (l.take k).length = k := by rw [List.length_take, l1.out]; omega
        have hf := plF_snoc (l.take k) x hin
        rw [hlen, ← hsn] at hf
        have HM : Hid (MapF embI w2 w.heap.size (plF (l.take (k + 1)))) := by
          show MapF _ _ _ _
          rw [hf]
          exact hm2
        have HN : Hid ((l.take (k + 1)).Nodup) := by
          show List.Nodup _
          rw [hsn, List.nodup_append]
          exact ⟨hnd, by simp, fun a ha c hc e => by simp only [List.mem_singleton] at hc; subst hc; subst e; exact hin ha⟩
        have HB : Hid (Below w.heap.size w w2) := hb.grown hg2 hb.size (fun g e => by cases e; exact Nat.le_refl _)
        clear hm hnd hb hlk hsn hin hp hx q1 hput hm2 hg2 hlen hf
        go_wp2_with fail
        go_roundw
        case rel => exact ⟨k + 1, by omega, by simp, HM.out, HN.out, HB.out⟩
        case measure => simp [intOf]; omega
    · obtain rfl : k = n1 := by omega
      rw [List.take_of_length_le (by rw [l1.out]; exact Nat.le_refl _)] at hm hnd
      by_cases hne : n3 = k
      · subst hne
        have HR : Hid (sortOut l nm = .ok (st.map (outF l nm))) := by
          show _ = _
          unfold sortOut
          rw [if_neg (by simpa using hnd), if_neg (by rw [l1.out, l3.out]; simp), HST.out]
          rfl
        have HM := Lib.hid hm
        have HB := Lib.hid hb
        have hsz := hb.size
        clear hm hnd hb
        go_wp2_with (at_make; refine wpList_make_own _ rfl _ _ 22 rfl w.heap.size 3 i0 (.int .i64 0) 1 Tryz.underlying22 hi hz0 hz1 .i64 .i64 _ n2 rfl rfl rfl (by rw [hz2]; omega) (by unfold maxLen; omega) (by omega) ?_; intro w0 hown hg0)
        have hm0 : MapF embI w0 w.heap.size (plF l) := HM.out.grown hg0 (by simp)
        have hb0 : Below w.heap.size w w0 := HB.out.grown hg0 HB.out.size (fun g e => by cases e)
        have HM0 := Lib.hid hm0
        have HB0 := Lib.hid hb0
        have HO0 := Lib.hid hown
        clear hm0 hb0 hown hg0 hsz
        go_loopw [13, 47] (fun v i w' => ∃ k : Nat, k ≤ n2 ∧ i = .int .i64 k ∧ ∃ A c, v = .slice A k c ∧ w'.ownsRow w.heap.size 3 1 (.slice A k c) k (cIs ((st.take k).map (outF l nm))) ∧ MapF embI w' w.heap.size (plF l) ∧ Below w.heap.size w w') (fun _ i _ => n2 - (intOf i).toNat)
        case atStart => exact ⟨0, Nat.zero_le _, rfl, _, _, rfl, HO0.out, HM0.out, HB0.out⟩
        case round =>
          obtain ⟨k, hk, rfl, A4, c4, rfl, ho, hm, hb⟩ := hrel
          by_cases hlt : k < n2
          · obtain ⟨b, o, x, rfl, hbb, hx, q1⟩ := R2.out.atI hlt
            have q2 : wr.cell? ⟨b, o + k, none⟩ = some (.int .i64 x) := ((bcell hb).1 _ _ hbb).trans q1
            have hxl : x ∈ l := by
              have := List.mem_of_getElem? hx.out
              rw [HST.out] at this
              exact (mem_setOf x l).1 this
            have hjl : l.idxOf x < n3 := by rw [← l1.out]; exact List.idxOf_lt_length_iff.2 hxl
            obtain ⟨b3, o3, y, rfl, hb3, hy, q3⟩ := R3.out.atI hjl
            have q4 : wr.cell? ⟨b3, o3 + l.idxOf x, none⟩ = some (.int .i64 y) := ((bcell hb).1 _ _ hb3).trans q3
            have hlk := hm.look1 Tryz.underlying245 Tryz.underlying3 (zeroI wr) x
            have hlk2 : (Instr.lookup 245 (.map (some w.heap.size)) (.int .i64 x) false).run Tryz.prog wr = .ok ((plF l x).getD (.int .i64 0)) wr := hlk
            have hp : plF l x = some (.int .i64 (l.idxOf x : Nat)) := if_pos hxl
            rw [hp] at hlk2
            simp only [Option.getD_some] at hlk2
            have hzz := Nat.lt_of_lt_of_le hb3 hb.size
            have hzy := Nat.lt_of_lt_of_le hbb hb.size
            have hsn : Hid (cIs ((st.take (k + 1)).map (outF l nm)) = cIs ((st.take k).map (outF l nm)) ++ [.int .i64 y]) := by
              show _ = _
              rw [take_snocI hx.out, List.map_append, cIs_app]
              have : outF l nm x = y := by
                unfold outF
                rw [List.getD_eq_getElem?_getD, hy.out]
                rfl
              rw [List.map_cons, List.map_nil, this]
              rfl
            generalize l.idxOf x = j at *
            generalize cIs ((st.take k).map (outF l nm)) = xs at *
            have Hm := Lib.hid hm
            have Hb := Lib.hid hb
            have hs9 := hb.size
            clear hx q1 hxl hy q3 hlk hp hm hb
            go_wp2_with (at_builtin; refine push_l elInt rfl (.tmp 51) (.tmp 58) rfl wr _ rfl w.heap.size k c4 A4 xs #[.int .i64 y] rfl rfl rfl ho (by simp [Value.oneCell']) (by omega) (by omega) ?_; intro A5 c5 w2 ho2 hg3 _)
            go_roundw
            case rel => exact ⟨k + 1, by omega, by simp, A5, c5, rfl, by rw [hsn.out]; exact ho2, Hm.out.grown hg3 (not_in_map Hm.out ho), Hb.out.grown hg3 Hb.out.size (fun g e => (ho.lt g e).1)⟩
            case measure => simp [intOf]; omega
          · obtain rfl : k = n2 := by omega
            rw [List.take_of_length_le (by rw [l2.out]; exact Nat.le_refl _)] at ho
            have Hb := Lib.hid hb
            have Ho := Lib.hid ho
            clear hm hb ho
            go_wp2_with fail
            go_ret2
            refine ⟨Hb.out, ?_⟩
            rw [HR.out]
            have hl9 : (st.map (outF l nm)).length = k := by rw [List.length_map]; exact l2.out
            show ∃ A' c', _ ∧ _
            rw [hl9]
            exact ⟨A4, c4, rfl, Ho.out⟩
      · have HR : Hid (sortOut l nm = .error 22) := by
          show _ = _
          unfold sortOut
          rw [if_neg (by simpa using hnd), if_pos (by rw [l1.out, l3.out]; exact hne)]
        have e1 : ((n3 : Int) == (k : Int)) = false := by simp; omega
        have e2 : ((n3 : Int) != (k : Int)) = true := by simp; omega
        have HB := Lib.hid hb
        clear hm hnd hb hne
        go_wp2_with fail
        go_ret2
        refine ⟨HB.out, ?_⟩
        rw [HR.out]
        rfl
end Go.Proofs.YtkijckccfookeaaGreatDoor
/- parse: the names of the glyph statements. -/
namespace Go.Proofs.YtkijckccfookeaaGreatDoor
open Go.RowKit

/-- how many glyph statements there are -/
def cntG : List (List B) → Nat
  | [] => 0
  | (w :: _) :: ls => if w = sGlyph then cntG ls + 1 else cntG ls
  | [] :: ls => cntG ls
theorem cntG_cons (w : B) (r : List B) (L : List (List B)) : cntG ((w :: r) :: L) = if w = sGlyph then cntG L + 1 else cntG L := rfl
theorem gnames_snoc (n : Nat) (a : List (List B)) (l : List B) : gnames n (a ++ [l]) = gnames n a ++ gnames (n + cntG a) [l] := by
  induction a generalizing n with
  | nil => rfl
  | cons x a ih =>
    cases x with
    | nil => exact ih n
    | cons w r =>
      rw [List.cons_append, gnames_cons, gnames_cons, cntG_cons]
      split
      · rw [ih, List.append_assoc, show n + 1 + cntG a = n + (cntG a + 1) by omega]
      · exact ih n
theorem cntG_snoc (a : List (List B)) (w : B) (r : List B) : cntG (a ++ [w :: r]) = if w = sGlyph then cntG a + 1 else cntG a := by
  induction a with
  | nil => rfl
  | cons x a ih =>
    cases x with
    | nil => exact ih
    | cons v q =>
      rw [List.cons_append, cntG_cons, cntG_cons, ih]
      split <;> split <;> rfl
theorem cntG_le (a : List (List B)) : cntG a ≤ a.length := by
  induction a with
  | nil => exact Nat.le_refl _
  | cons x a ih =>
    cases x with
    | nil => exact Nat.le_succ_of_le ih
    | cons w r => rw [cntG_cons, List.length_cons]; split <;> omega
def gF (gl : Gl) : B → Option Value := fun t => (gl.lookup t).map fun n => .int .i64 (n : Nat)
theorem gnames_le (n : Nat) (L : List (List B)) (t : B) (m : Nat) (h : (gnames n L).lookup t = some m) : m < n + cntG L := by
  have key : ∀ (L : List (List B)) (n : Nat), ∀ x ∈ gnames n L, x.2 < n + cntG L := by
    intro L
    induction L with
    | nil => intro n x hx; simp [gnames] at hx
    | cons l L ih =>
      intro n x hx
      cases l with
      | nil => exact ih n x hx
      | cons w r =>
        rw [gnames_cons] at hx
        rw [cntG_cons]
        split at hx
        · rename_i hw
          rw [if_pos hw]
          rw [List.mem_append] at hx
          rcases hx with hx | hx
          · unfold gname1 at hx
            split at hx
            · split at hx
              · simp only [List.mem_singleton] at hx
                subst hx
                simp only
                omega
              · simp at hx
            · simp at hx
          · have := ih (n + 1) x hx
            omega
        · rename_i hw
          rw [if_neg hw]
          exact ih n x hx
  have hm : (t, m) ∈ gnames n L := by
    revert h
    generalize gnames n L = G
    intro h
    induction G with
    | nil => simp at h
    | cons a G ih =>
      obtain ⟨x, y⟩ := a
      rw [List.lookup] at h
      split at h
      · rename_i hb
        have : t = x := by simpa using hb
        subst this
        injection h with h
        subst h
        simp
      · exact List.mem_cons_of_mem _ (ih h)
  exact key L n _ hm
theorem row_at2 {w wr : World} {A : Option Addr} {n k : Nat} {hs : List Value} {rows : List (List P3)} (hr : RdT w 119 A n 1 hs) (hin : RowsIn tWd w hs rows) (hb : Below w.heap.size w wr) (hk : k < n) :
    ∃ b o r Ar kr cr, A = some ⟨b, o, none⟩ ∧ Hid (rows[k]? = some r) ∧ b < wr.heap.size ∧ wr.cell? ⟨b, o + k, none⟩ = some (.slice Ar kr cr) ∧ RdT wr tWd Ar kr 3 (c3s r) ∧ kr = r.length ∧ kr ≤ cr := by
  have hr' := hr.below hb
  have hin' := hin.below hb
  obtain ⟨b, o, cur, e, hbk, hc⟩ := hr'.2 (by omega)
  have hl : hs.length = n := by have := hr.1; omega
  have hk2 : k < rows.length := by rw [← hin.1, hl]; exact hk
  obtain ⟨Ar, kr, cr, g1, g2, g3⟩ := hin'.2 k _ (List.getElem?_eq_getElem hk2)
  exact ⟨b, o, rows[k], Ar, kr, cr, e, List.getElem?_eq_getElem hk2, hbk.lt, (hbk.cell _).trans (hc k _ g1), g2, g2.rd.len3.symm, g3⟩
theorem mkMapG (w : World) : (Instr.makeMap 112 none).run Tryz.prog w = .ok (.map (some w.heap.size)) (w.alloc (.map #[] 0)) := by
  simp [Instr.makeMap, run_underlying Tryz.underlying112, Result.andThen, newObj, go_sem]
  try rfl
/-- between two rounds -/
def GnSt (w : World) (L : List (List B)) (k : Nat) (wr : World) : Prop := MapF embB wr w.heap.size (gF (gnames 0 (L.take k))) ∧ Below w.heap.size w wr
theorem gF_skip {G H : Gl} (h : ∀ t, H.lookup t = G.lookup t) : ∀ t, gF H t = gF G t := fun t => by unfold gF; rw [h]
theorem GnSt.skip {w wr w1 : World} {L : List (List B)} {k : Nat} {l : List B} (h : GnSt w L k wr) (hk : L[k]? = some l) (hb : Below wr.heap.size wr w1) (hs : ∀ t, (gnames (0 + cntG (L.take k)) [l]).lookup t = none ∨ ((gnames 0 (L.take k)).lookup t).isSome) : GnSt w L (k + 1) w1 := by
  refine ⟨(h.1.below hb).congr fun t => ?_, h.2.trans (hb.mono h.2.size)⟩
  refine gF_skip (fun t => ?_) t
  rw [List.take_add_one, hk, Option.toList_some, gnames_snoc, List.lookup_append]
  rcases hs t with h | h
  · rw [h, Option.or_none]
  · cases hx : (gnames 0 (L.take k)).lookup t with
    | none => rw [hx] at h; cases h
    | some v => rfl
theorem GnSt.put {w wr w1 : World} {L : List (List B)} {k : Nat} {v : B} {l : List B} (h : GnSt w L k wr) (hk : L[k]? = some (sGlyph :: v :: l)) (hv : nameB v = true) (hn : (gnames 0 (L.take k)).lookup v = none)
    (hm : MapF embB w1 w.heap.size (fun t => if t = v then some (.int .i64 (cntG (L.take k) : Nat)) else gF (gnames 0 (L.take k)) t)) (hg : wr.grownBy w1 (some w.heap.size)) : GnSt w L (k + 1) w1 := by
  refine ⟨hm.congr fun t => ?_, h.2.grown hg h.2.size (fun k e => by cases e; exact Nat.le_refl _)⟩
  unfold gF
  rw [List.take_add_one, hk, Option.toList_some, gnames_snoc, List.lookup_append]
  have e1 : gnames (0 + cntG (L.take k)) [sGlyph :: v :: l] = [(v, cntG (L.take k))] := by
    rw [gnames_cons, if_pos rfl, gname1]
    simp [hv, gnames]
  rw [e1]
  by_cases ht : t = v
  · subst ht
    rw [if_pos rfl, hn]
    simp [List.lookup]
  · have hb : (t == v) = false := by simpa using ht
    rw [if_neg ht, List.lookup, hb]
    simp
set_option maxRecDepth 100000 in
set_option maxHeartbeats 4000000 in
theorem glyphNames_ok (w : World) (A : Option Addr) (n c : Nat) (rows : List (List P3)) (hs : List Value) (hr : RdT w 119 A n 1 hs) (hin : RowsIn tWd w hs rows) (hn : n ≤ 1000000000) (hne : ∀ r ∈ rows, r ≠ []) (hl : ∀ r ∈ rows, r.length ≤ 1000000000 ∧ ∀ x ∈ r, x.2.2.length ≤ 1000000) :
    Calls Tryz.prog 39 #[.slice A n c] w fun e w' => ∃ M, e = .returned (.map (some M)) ∧ w.heap.size ≤ M ∧ MapF embB w' M (gF (gnames 0 (trows rows))) ∧ Below w.heap.size w w' := by
  have hlen : hs.length = n := by have := hr.1; omega
  have hrl := Lib.hid (show (trows rows).length = n by unfold trows; rw [List.length_map, ← hin.1]; exact hlen)
  have HW := Lib.hid hr
  have HIN := Lib.hid hin
  have HL := Lib.hid hl
  have HNE := Lib.hid hne
  have hmk := mkMapG w
  clear hr hin hl hne hlen
  go_enter Tryz.func39, Tryz.ntmps39
  go_wp2_with fail
  clear hmk
  go_loopw [4, 12] (fun cnt i wr => ∃ k : Nat, k ≤ n ∧ i = .int .i64 k ∧ cnt = .int .i64 (cntG ((trows rows).take k) : Nat) ∧ GnSt w (trows rows) k wr) (fun _ i _ => n - (intOf i).toNat)
  case atStart => exact ⟨0, Nat.zero_le _, rfl, rfl, MapF.new embB w, (Below.refl _ _).alloc (Nat.le_refl _) _⟩
  case round =>
    obtain ⟨k, hk, rfl, rfl, hst⟩ := hrel
    have zm := hst.1.lt
    by_cases hlt : k < n
    · obtain ⟨b, o, r, Ar, kr, cr, rfl, hp, hbw, q1, hrd, hkr, -⟩ := row_at2 HW.out HIN.out hst.2 hlt
      have hrm := List.mem_of_getElem? hp.out
      have hLn : LnAt wr Ar kr r := ⟨hrd, (HL.out r hrm).2, by rw [hkr]; exact (HL.out r hrm).1⟩
      obtain ⟨t, l, htx⟩ : ∃ t l, txts r = t :: l := by
        have := HNE.out r hrm
        cases r with
        | nil => exact absurd rfl this
        | cons x q => exact ⟨_, _, rfl⟩
      have hkl : (trows rows)[k]? = some (t :: l) := by unfold trows; rw [List.getElem?_map, hp.out, Option.map_some, htx]
      have hkn : kr = l.length + 1 := by rw [← hLn.length]; exact txts_cons htx
      obtain ⟨b1, o1, rfl, hb1, p1, hz1⟩ := hLn.word (k := 0) (t := t) (by rw [htx]; rfl) (d := 0) rfl
      have hcl := cntG_le ((trows rows).take k)
      rw [List.length_take, hrl.out] at hcl
      have hcs : Hid (cntG ((trows rows).take (k + 1)) = if t = sGlyph then cntG ((trows rows).take k) + 1 else cntG ((trows rows).take k)) := by
        show _ = _
        rw [List.take_add_one, hkl, Option.toList_some, cntG_snoc]
      have HST := Lib.hid hst
      have HKL := Lib.hid hkl
      have hc9 : cntG ((trows rows).take k) ≤ 1000000000 := by omega
      generalize hcg : cntG ((trows rows).take k) = cg at *
      have HCG := Lib.hid hcg
      by_cases ht : t = sGlyph
      · subst ht
        cases l with
        | nil =>
          simp only [List.length_nil, Nat.zero_add] at hkn
          subst hkn
          have HNX : Hid (∀ w1, Below wr.heap.size wr w1 → GnSt w (trows rows) (k + 1) w1) := fun w1 hb => HST.out.skip HKL.out hb (fun t => .inl rfl)
          clear hst hkl hcg hrd hkr hLn htx hp hrm hcl
          go_wp2_with fail
          go_roundw
          case rel => exact ⟨k + 1, by omega, by simp, by rw [hcs.out]; simp, HNX.out _ (Below.refl _ _)⟩
          case measure => simp [intOf]; omega
        | cons v l =>
          obtain ⟨b2, o2, e', -, p2, hz2⟩ := hLn.word (k := 1) (t := v) (by rw [htx]; rfl) (d := 3) rfl
          obtain ⟨rfl, rfl⟩ : b1 = b2 ∧ o1 = o2 := by simpa using e'
          clear e'
          have hk2 : (kr : Int) > 1 := by rw [hkn]; simp; omega
          have hlk0 := HST.out
          cases hv : nameB v with
          | false =>
            have HNX : Hid (∀ w1, Below wr.heap.size wr w1 → GnSt w (trows rows) (k + 1) w1) := fun w1 hb => HST.out.skip HKL.out hb (fun t => .inl (by
              rw [gnames_cons, if_pos rfl, gname1]
              simp [hv, gnames]))
            have hkk : 1 < kr := by omega
            clear hst hkl hcg hrd hkr hLn htx hp hrm hcl hlk0 hkn
            go_wp2_with (go_at_call 72; refine (wName_ok _ v).mono ?_; rintro e w1 ⟨rfl, hb9⟩; rw [hv]; have HB9 := Lib.hid hb9; clear hb9)
            go_roundw
            case rel => exact ⟨k + 1, by omega, by simp, by rw [hcs.out]; simp, HNX.out _ HB9.out⟩
            case measure => simp [intOf]; omega
          | true =>
            have HV := Lib.hid hv
            have hkk : 1 < kr := by omega
            have hlkF : ∀ w1, Below wr.heap.size wr w1 → MapF embB w1 w.heap.size (gF (gnames 0 ((trows rows).take k))) := fun w1 hb => HST.out.1.below hb
            cases hx : (gnames 0 ((trows rows).take k)).lookup v with
            | none =>
              have hf0 : gF (gnames 0 ((trows rows).take k)) v = none := by unfold gF; rw [hx]; rfl
              have HX := Lib.hid hx
              have HF0 := Lib.hid hf0
              clear hst hkl hrd hkr hLn htx hp hrm hcl hlk0 hkn hx hf0 hv
              go_wp2_with (go_at_call 72; refine (wName_ok _ v).mono ?_; rintro e w1 ⟨rfl, hb9⟩; rw [HV.out]; have HB9 := Lib.hid hb9; have p2' := ((bcell hb9).1 _ _ hb1).trans p2; have hm9 := hlkF w1 hb9; have hlk := hm9.look2 Tryz.underlying112 Tryz.underlying9 (zeroI w1) v; rw [HF0.out] at hlk; obtain ⟨w2, hput, hm2, hg2⟩ := hm9.put Tryz.underlying112 Tryz.underlying9 v (.int .i64 (cg : Nat)) HF0.out; have hput2 : (Instr.mapUpdate 112 (.map (some w.heap.size)) (.string ⟨v.toArray⟩) (.int .i64 (cg : Nat))).run Tryz.prog w1 = .ok () w2 := hput; have hlk2 : (Instr.lookup 112 (.map (some w.heap.size)) (.string ⟨v.toArray⟩) true).run Tryz.prog w1 = .ok (.tuple #[.int .i64 0, .bool false]) w1 := hlk; have HM2 := Lib.hid hm2; have HG2 := Lib.hid hg2; clear hb9 hm9 hlk hput hm2 hg2)
              go_roundw
              case rel =>
                refine ⟨k + 1, by omega, by simp, by rw [hcs.out]; simp, ?_⟩
                refine GnSt.put (wr := w1) (L := trows rows) (k := k) ⟨HST.out.1.below HB9.out, HST.out.2.trans (HB9.out.mono HST.out.2.size)⟩ HKL.out HV.out HX.out ?_ HG2.out
                rw [HCG.out]
                exact HM2.out
              case measure => simp [intOf]; omega
            | some m =>
              have hf0 : gF (gnames 0 ((trows rows).take k)) v = some (.int .i64 (m : Nat)) := by unfold gF; rw [hx]; rfl
              have HF0 := Lib.hid hf0
              have HNX : Hid (∀ w1, Below wr.heap.size wr w1 → GnSt w (trows rows) (k + 1) w1) := fun w1 hb => HST.out.skip HKL.out hb (fun x => by
                rw [gnames_cons, if_pos rfl, gname1]
                by_cases hxv : x = v
                · subst hxv
                  exact .inr (by rw [hx]; rfl)
                · refine .inl ?_
                  have hb : (x == v) = false := by simpa using hxv
                  simp [HV.out, gnames, List.lookup, hb])
              clear hst hkl hrd hkr hLn htx hp hrm hcl hlk0 hkn hx hf0 hv
              go_wp2_with (go_at_call 72; refine (wName_ok _ v).mono ?_; rintro e w1 ⟨rfl, hb9⟩; rw [HV.out]; have HB9 := Lib.hid hb9; have p2' := ((bcell hb9).1 _ _ hb1).trans p2; have hm9 := hlkF w1 hb9; have hlk := hm9.look2 Tryz.underlying112 Tryz.underlying9 (zeroI w1) v; rw [HF0.out] at hlk; have hlk2 : (Instr.lookup 112 (.map (some w.heap.size)) (.string ⟨v.toArray⟩) true).run Tryz.prog w1 = .ok (.tuple #[.int .i64 (m : Nat), .bool true]) w1 := hlk; clear hb9 hm9 hlk)
              go_roundw
              case rel => exact ⟨k + 1, by omega, by simp, by rw [hcs.out]; simp, HNX.out _ HB9.out⟩
              case measure => simp [intOf]; omega
      · have e1 : (t == [103, 108, 121, 112, 104]) = false := by simpa using ht
        have e2 : (t != [103, 108, 121, 112, 104]) = true := by simpa using ht
        have hk0 : 0 < kr := by omega
        have HNX : Hid (∀ w1, Below wr.heap.size wr w1 → GnSt w (trows rows) (k + 1) w1) := fun w1 hb => HST.out.skip HKL.out hb (fun x => .inl (by rw [gnames_cons, if_neg ht]; rfl))
        have HT := Lib.hid ht
        clear hst hkl hcg hrd hkr hLn htx hp hrm hcl ht hkn
        go_wp2_with fail
        go_roundw
        case rel => exact ⟨k + 1, by omega, by simp, by rw [hcs.out, if_neg HT.out], HNX.out _ (Below.refl _ _)⟩
        case measure => simp [intOf]; omega
    · obtain rfl : k = n := by omega
      have hfin : MapF embB wr w.heap.size (gF (gnames 0 (trows rows))) := by
        have := hst.1
        rwa [List.take_of_length_le (by rw [hrl.out]; exact Nat.le_refl _)] at this
      have HF := Lib.hid hfin
      have HBW := Lib.hid hst.2
      clear hfin hst
      go_wp2_with fail
      go_ret
      exact ⟨_, rfl, Nat.le_refl _, HF.out, HBW.out⟩
end Go.Proofs.YtkijckccfookeaaGreatDoor
