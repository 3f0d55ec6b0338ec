/- parse: class, the walk. -/
import Derived.Test.YtkijckccfookeaaGreatDoorM22
import Derived.BigQuiet
namespace Go.Proofs.YtkijckccfookeaaGreatDoor
open Go.RowKit
attribute [-go_sem] Builtin.append_

theorem rClass_sets (w : World) (gl : Gl) (s : PS) (t1 : B) (r : List B) (ws2 : List P3) (hw : txts ws2 = r) : (setsL ws2 = none → rClass gl s (t1 :: r) = .error 22) ∧ (∀ rows, setsL ws2 = some rows → rows.length ≠ 1 → rClass gl s (t1 :: r) = .error 22) ∧ (∀ row, setsL ws2 = some [row] → setsT r = some [txts row]) := by
  have h := setsT_txts ws2
  rw [hw] at h
  refine ⟨fun e => ?_, fun rows e hl => ?_, fun row e => ?_⟩
  · rw [e] at h
    exact rClass_none _ _ _ _ fun row e' => by rw [h] at e'; cases e'
  · rw [e] at h
    refine rClass_none _ _ _ _ fun row e' => ?_
    rw [h] at e'
    injection e' with e'
    have := congrArg List.length e'
    simp at this
    exact hl this
  · rw [e] at h
    exact h
set_option maxRecDepth 100000 in
set_option maxHeartbeats 4000000 in
theorem readClass_ok (w : World) (Bd p gm cm : Nat) (gl : Gl) (s : PS) (rv : Rows) (K : Nat) (A : Option Addr) (n c : Nat) (ws : List P3) (t : B) (l : List B) (hP : PSt w Bd p gm cm gl s rv K) (hL : LnAt w A n ws) (hT : txts ws = t :: l) (hc : n ≤ c) :
    Calls Tryz.prog 78 #[.pointer (some ⟨p, 0, none⟩), .slice A n c] w (StPost w Bd p gm cm gl (K + n) (rClass gl s l)) := by
  have hn : n = l.length + 1 := by rw [← hL.length]; exact txts_cons hT
  have hB := hP.size
  have hnn := hL.few
  cases l with
  | nil =>
    have HR : Hid (rClass gl s [] = .error 22) := rfl
    simp only [List.length_nil] at hn
    subst hn
    clear hP hL hT hc
    go_enter Tryz.func78, Tryz.ntmps78
    go_wp2
    go_ret
    exact StPost.bad HR.out (Below.refl _ _)
  | cons t1 r =>
    have hwsl := hL.length
    obtain ⟨A', hsub, hrd, hlen⟩ := hL.sub hc 2 2 rfl (by simp at hn; omega)
    obtain ⟨b, o, rfl, hb, q1, hz1⟩ := hL.word (k := 1) (t := t1) (by rw [hT]; rfl) (d := 3) rfl
    have hrest : txts (ws.drop 2) = r := by rw [txts_drop, hT]; rfl
    obtain ⟨c1, c2, c3⟩ := rClass_sets w gl s t1 r (ws.drop 2) hrest
    have hds : (ws.drop 2).length ≤ 1000000000 := by rw [List.length_drop]; omega
    have hset := Lib.hid (wSets_ok w (ws.drop 2) w.heap.size A' (n - 2) (c - 2) hrd.rd (Nat.le_refl _) (by omega))
    have HP := Lib.hid hP
    have hpb : p < w.heap.size := hP.par.lt
    have HN1 := Lib.hid (fun w rb er h => name_ok w rb p er t1 h)
    have hn2 : 2 ≤ n := by simp at hn; omega
    have en : ((n : Int) < 2) = False := by simp; omega
    have HC1 := Lib.hid c1
    have HC2 := Lib.hid c2
    have HC3 := Lib.hid c3
    have HDS := Lib.hid hds
    generalize ws.drop 2 = ws2 at *
    clear hP hL hT hrd hlen hn hz1 hrest c1 c2 c3 hds
    go_enter Tryz.func78, Tryz.ntmps78
    cases hsl : setsL ws2 with
    | none =>
      have HR := Lib.hid (HC1.out hsl)
      have hs2 : ∀ e w', SetsPost 124 119 w ws2 e w' → e = .returned (.tuple #[.slice none 0 0, .bool false]) ∧ Below w.heap.size w w' := fun e w' h => by unfold SetsPost at h; rw [hsl] at h; exact h
      have HS2 := Lib.hid hs2
      clear hs2 hsl
      go_wp2_with fail
      refine hset.out.mono ?_
      rintro e w1 hpost
      obtain ⟨rfl, hb1⟩ := HS2.out _ _ hpost
      clear hpost
      go_wp2
      go_ret
      exact StPost.bad HR.out (hb1.mono hB)
    | some rows =>
      have hs2 : ∀ e w', SetsPost 124 119 w ws2 e w' → ∃ v, e = .returned (.tuple #[v, .bool true]) ∧ RetRows 124 119 w w' rows v := fun e w' h => by unfold SetsPost at h; rw [hsl] at h; exact h
      have HS2 := Lib.hid hs2
      have HSL := Lib.hid hsl
      clear hs2 hsl
      go_wp2_with fail
      refine hset.out.mono ?_
      rintro e w1 hpost
      obtain ⟨v, rfl, A2, c2, hs, rfl, hrd2, hin, hb1⟩ := HS2.out _ _ hpost
      have HB1 := Lib.hid hb1
      have HIN := Lib.hid hin
      have HRD := Lib.hid hrd2
      clear hpost hb1 hin hrd2
      by_cases hone : rows.length = 1
      · obtain ⟨row, rfl⟩ : ∃ row, rows = [row] := by
          match rows, hone with
          | [a], _ => exact ⟨a, rfl⟩
        have hsT := Lib.hid (HC3.out row HSL.out)
        have hrow := (setsL_lens HSL.out).2 row (by simp)
        have hds := HDS.out
        obtain ⟨Ar, kr, cr, hh0, hrr, hkc⟩ := HIN.out.2 0 row rfl
        obtain ⟨b2, o2, cur2, rfl, hb2, hcu2⟩ := HRD.out.2 (by simp)
        have z2 : w1.cell? ⟨b2, o2, none⟩ = some (.slice Ar kr cr) := (hb2.cell o2).trans (hcu2 0 _ hh0)
        have hbl2 : b2 < w1.heap.size := hb2.lt
        have hkr : kr = row.length := hrr.rd.len3.symm
        have hkr9 : kr ≤ 1000000000 := by omega
        have HRR := Lib.hid hrr
        clear hrr hb2 hcu2 hh0 hrow hds hone hkr
        simp only [List.length_cons, List.length_nil, Nat.zero_add]
        go_wp2_with fail
        refine (read_ok w1 p).mono ?_
        rintro e w2 ⟨rfl, hr2, hb2⟩
        have hs1 := HB1.out.size
        have Hb2 : Hid (Below w.heap.size w w2) := HB1.out.trans (hb2.mono hs1)
        have HRR2 := Lib.hid (HRR.out.below hb2)
        have z3 : w2.cell? ⟨b2, o2, none⟩ = some (.slice Ar kr cr) := ((bcell hb2).1 _ _ hbl2).trans z2
        have q2 : w2.cell? ⟨b, o + 3 + 2, none⟩ = some (.string ⟨t1.toArray⟩) := ((bcell Hb2.out).1 _ _ hb).trans q1
        have hl2 := hr2.lt
        have hs2 := hb2.size
        have Hr2 := Lib.hid hr2
        have HBB2 := Lib.hid hb2
        clear hr2 hb2
        go_wp2_with fail
        refine (HN1.out _ _ _ (by exact Hr2.out)).mono ?_
        rintro e w3 ⟨rfl, hr3, hg3⟩
        have Hb3 := Lib.hid (below_rdr Hb2.out hg3 hs1)
        have z4 : w3.cell? ⟨b2, o2, none⟩ = some (.slice Ar kr cr) := ((bcell (below_rdr HBB2.out hg3 (Nat.le_refl _))).1 _ _ hbl2).trans z2
        have HRR3 := Lib.hid (rdT_rdr HRR2.out Hr2.out hg3)
        have HA3 := Lib.hid ((HP.out.below Hb3.out).at)
        have Hr3 := Lib.hid hr3
        have hs3 := hg3.size
        clear hr3 hg3
        go_wp2_with fail
        refine (set_ok w3 w1.heap.size p gm cm gl s.cls (eName 0 t1) Ar kr cr row Hr3.out HA3.out HRR3.out hkr9).mono ?_
        rintro e w4 ⟨v, rfl, A5, c5, rfl, ho5, hr5, hg5⟩
        have hb5 := below_rdr Hb3.out hg5 hs1
        have k5 : w4.cell? ⟨w1.heap.size, 1, none⟩ = some (.int .i64 (setRun gl s.cls (eName 0 t1) [] (txts row)).1) := hr5.cell 1
        by_cases her : (setRun gl s.cls (eName 0 t1) [] (txts row)).1 = 0
        · obtain ⟨HRk, hle⟩ := rClass_ok gl s t1 r (txts row) hsT.out her
          have hII := run_i64 gl s.cls HP.out.glI HP.out.clsI (eName 0 t1) [] (by simp) (txts row)
          rw [her] at k5
          generalize (setRun gl s.cls (eName 0 t1) [] (txts row)).2 = res at *
          have HPW := HP.out.below hb5
          obtain ⟨f, hf1, hf2⟩ := HPW.cls
          have a_p : w4.cell? ⟨p, 11, none⟩ = some (.map (some cm)) := HPW.par.cell 11
          have zp : p < w4.heap.size := HPW.par.lt
          have hlk := hf1.look2 Tryz.underlying114 Tryz.underlying9 (zeroRow _) t1
          have hlk2 : (Instr.lookup 114 (.map (some cm)) (.string ⟨t1.toArray⟩) true).run Tryz.prog w4 = .ok (.tuple #[(f t1).getD (.slice none 0 0), .bool (f t1).isSome]) w4 := hlk
          rcases hf2 t1 with ⟨g1, g2⟩ | ⟨l9, A9, c9, g1, g2, g3, g4⟩
          · have HR2 : Hid (rClass gl s (t1 :: r) = .ok { s with cls := s.cls ++ [(t1, res)] }) := by
              show _ = _
              rw [HRk, g1]
              rfl
            rw [g2] at hlk2
            simp only [Option.getD_none, Option.isSome_none] at hlk2
            obtain ⟨w9, hput, hm9, hg9⟩ := hf1.put Tryz.underlying114 Tryz.underlying9 t1 (.slice A5 res.length c5) g2
            have hput2 : (Instr.mapUpdate 114 (.map (some cm)) (.string ⟨t1.toArray⟩) (.slice A5 res.length c5)).run Tryz.prog w4 = .ok () w9 := hput
            have Hnew := Lib.hid (HPW.newClass (l := res) (Sl.of_own' ho5 (int_fl _ _ _ hII) (HP.out.fresh ho5 (by omega) (by decide)) (by decide)) (by omega) g1 hf2 hm9 hg9)
            have HQ := Lib.hid (KQ.below (cm := cm) hb5)
            have HLow := Lib.hid (hb5.mono hB)
            clear HRk hle hII hf1 hf2 hlk hput hm9 hg9 HPW ho5 hr5 hg5 hb5 her g1 g2
            go_wp2_with fail
            go_ret
            exact StPost.good HR2.out (HLow.out.trans Hnew.out.2.2) (HQ.out.trans Hnew.out.2.1) (Hnew.out.1.mono (Nat.le_add_right _ _))
          · have HR2 : Hid (rClass gl s (t1 :: r) = .error 24) := by
              show _ = _
              rw [HRk, g1]
              rfl
            rw [g2] at hlk2
            simp only [Option.getD_some, Option.isSome_some] at hlk2
            have HLow := Lib.hid (hb5.mono hB)
            clear HRk hle hII hf1 hf2 hlk HPW ho5 hr5 hg5 hb5 her g1 g2 g3 g4
            go_wp2_with fail
            go_ret
            exact StPost.bad HR2.out HLow.out
        · have HR2 := Lib.hid (rClass_err gl s t1 r (txts row) hsT.out her)
          generalize (setRun gl s.cls (eName 0 t1) [] (txts row)).1 = er at *
          generalize (setRun gl s.cls (eName 0 t1) [] (txts row)).2 = res at *
          have e1 : (er == 0) = false := by simpa using her
          have e2 : (er != 0) = true := by simpa using her
          have HLow := Lib.hid (hb5.mono hB)
          clear ho5 hr5 hg5 hb5 her
          go_wp2_with fail
          go_ret
          exact StPost.bad HR2.out HLow.out
      · have HR := Lib.hid (HC2.out rows HSL.out hone)
        have e1 : ((rows.length : Int) == 1) = false := by simp; omega
        have e2 : ((rows.length : Int) != 1) = true := by simp; omega
        clear hone
        go_wp2
        go_ret
        exact StPost.bad HR.out (HB1.out.mono hB)
end Go.Proofs.YtkijckccfookeaaGreatDoor
/- parse: a rule's words cut. -/
namespace Go.Proofs.YtkijckccfookeaaGreatDoor
open Go.RowKit
attribute [-go_sem] Builtin.append_

/-- a rule's words: up to the first slash, the second one, the sign, and behind it -/
def partsGoP : Nat → List P3 → List (List P3) → List P3 → Option (List (List P3))
  | n, cur, told, [] => if n = 3 then some (told ++ [cur]) else none
  | n, cur, told, w :: r =>
    if w.2.2 ≠ [47] ∧ w.2.2 ≠ [62] then partsGoP n (cur ++ [w]) told r
    else if (n < 2 ∧ w.2.2 = [47]) ∨ (n = 2 ∧ w.2.2 = [62]) then partsGoP (n + 1) [] (told ++ [cur]) r else none
def partsL (ws : List P3) : Option (List (List P3)) := partsGoP 0 [] [] ws
theorem partsGo_txts (n : Nat) (cur : List P3) (told : List (List P3)) (ws : List P3) : partsGo n (txts cur) (told.map txts) (txts ws) = (partsGoP n cur told ws).map (List.map txts) := by
  induction ws generalizing n cur told with
  | nil =>
    show partsGo n (txts cur) (told.map txts) [] = _
    rw [partsGo, partsGoP]
    split
    · simp
    · rfl
  | cons w r ih =>
    show partsGo n (txts cur) (told.map txts) (w.2.2 :: txts r) = _
    rw [partsGo, partsGoP]
    split
    · have := ih n (cur ++ [w]) told
      rw [show txts (cur ++ [w]) = txts cur ++ [w.2.2] by simp [txts]] at this
      exact this
    · split
      · have := ih (n + 1) [] (told ++ [cur])
        rw [List.map_append] at this
        exact this
      · rfl
theorem partsT_txts (ws : List P3) : partsT (txts ws) = (partsL ws).map (List.map txts) := partsGo_txts 0 [] [] ws
theorem parts_lens (n : Nat) (cur : List P3) (told : List (List P3)) (ws : List P3) (rows : List (List P3)) (hn : n = told.length) (h : partsGoP n cur told ws = some rows) : rows.length = 4 ∧ ∀ r ∈ rows, r ∈ told ∨ r.length ≤ cur.length + ws.length := by
  induction ws generalizing n cur told with
  | nil =>
    rw [partsGoP] at h
    split at h
    · cases h
      refine ⟨by simp; omega, fun r hr => ?_⟩
      rcases List.mem_append.1 hr with g | g
      · exact .inl g
      · simp only [List.mem_singleton] at g
        subst g
        exact .inr (by simp)
    · cases h
  | cons w r ih =>
    rw [partsGoP] at h
    split at h
    · obtain ⟨g1, g2⟩ := ih n (cur ++ [w]) told hn h
      refine ⟨g1, fun x hx => (g2 x hx).imp id fun g => ?_⟩
      simp only [List.length_cons, List.length_append, List.length_nil] at g ⊢
      omega
    · split at h
      · obtain ⟨g1, g2⟩ := ih (n + 1) [] (told ++ [cur]) (by simp [hn]) h
        refine ⟨g1, fun x hx => ?_⟩
        rcases g2 x hx with g | g
        · rcases List.mem_append.1 g with g | g
          · exact .inl g
          · simp only [List.mem_singleton] at g
            subst g
            exact .inr (by omega)
        · exact .inr (by simp only [List.length_cons, List.length_nil] at g ⊢; omega)
      · cases h
theorem partsL_lens {ws : List P3} {rows : List (List P3)} (h : partsL ws = some rows) : rows.length = 4 ∧ ∀ r ∈ rows, r.length ≤ ws.length := by
  obtain ⟨h1, h2⟩ := parts_lens 0 [] [] ws rows rfl h
  exact ⟨h1, fun r hr => (h2 r hr).elim (fun g => by simp at g) (fun g => by simpa using g)⟩
abbrev tArr : TypeId := 208
abbrev tCuts : TypeId := 242
abbrev tWd : TypeId := 124
def cutCells (hs : List Value) (v : Value) : Array Value := (hs ++ [v] ++ List.replicate (3 - hs.length) (Value.slice none 0 0)).toArray
def cutStrs : Array Value := #[.string ⟨#[47]⟩, .string ⟨#[47]⟩, .string ⟨#[62]⟩]
theorem cutC_at (hs : List Value) (v : Value) : (cutCells hs v)[hs.length]? = some v := by simp [cutCells]
theorem cut_set (hs : List Value) (v u : Value) : (cutCells hs v).setIfInBounds hs.length u = cutCells hs u := by
  simp [cutCells]
theorem cut_next (hs : List Value) (v : Value) (h : hs.length < 3) : cutCells (hs ++ [v]) (.slice none 0 0) = cutCells hs v := by
  unfold cutCells
  congr 1
  have : 3 - hs.length = (3 - (hs ++ [v]).length) + 1 := by simp; omega
  rw [this, List.replicate_succ]
  simp
theorem cut_four (hs : List Value) (v : Value) (h : hs.length ≤ 3) : ∃ a b c d, cutCells hs v = #[a, b, c, d] := by
  have hl : (cutCells hs v).toList.length = 4 := by simp [cutCells]; omega
  match hm : (cutCells hs v).toList, hl with
  | [a, b, c, d], _ => exact ⟨a, b, c, d, by rw [← Array.toList_inj, hm]⟩
/-- where the cutting stands -/
def CutSt (w : World) (ws : List P3) (k n : Nat) (wr : World) : Prop :=
  ∃ told hs cur A c Wo, hs.length = n ∧ told.length = n ∧ n ≤ 3 ∧ cur.length ≤ k ∧ partsGoP n cur told (ws.drop k) = partsL ws ∧ Below w.heap.size w Wo ∧ w.heap.size + 1 < Wo.heap.size ∧ RowsIn tWd Wo hs told ∧ Wo.grownBy wr (some w.heap.size) ∧
    wr.ownsRow Wo.heap.size tWd 3 (.slice A cur.length c) cur.length (c3s cur) ∧ Bk wr w.heap.size tArr (cutCells hs (.slice A cur.length c)) ∧ Bk wr (w.heap.size + 1) tCuts cutStrs ∧ (∃ cs0, Bk Wo w.heap.size tArr cs0)
theorem CutSt.low {w wr : World} {ws : List P3} {k n : Nat} (h : CutSt w ws k n wr) : Below w.heap.size w wr := by
  obtain ⟨told, hs, cur, A, c, Wo, -, -, -, -, -, h6, h7, -, h9, -⟩ := h
  exact h6.grown h9 h6.size (fun g e => by cases e; exact Nat.le_refl _)
theorem RowsIn.keepW {w w' : World} {hs : List Value} {rows : List (List P3)} (h : RowsIn tWd w hs rows) {P : Nat} {t : TypeId} {cs : Array Value} (hb : Bk w P t cs) (hg : w.grownBy w' (some P)) (hne : tWd ≠ t) : RowsIn tWd w' hs rows :=
  h.kept fun _ _ _ hr => hr.grown hg (fun g e => by cases e; exact ⟨cs, t, hb, hne⟩)
/-- a word more -/
theorem CutSt.more {w wr w9 : World} {ws : List P3} {k n : Nat} {told : List (List P3)} {hs : List Value} {cur : List P3} {A A' : Option Addr} {c c' : Nat} {Wo : World} {q : P3} (h1 : hs.length = n) (h2 : told.length = n) (h3 : n ≤ 3) (h4 : cur.length ≤ k) (h5 : partsGoP n cur told (ws.drop k) = partsL ws) (h6 : Below w.heap.size w Wo) (h7 : w.heap.size + 1 < Wo.heap.size) (h8 : RowsIn tWd Wo hs told)
    (h9 : Wo.grownBy wr (some w.heap.size)) (h10 : wr.ownsRow Wo.heap.size tWd 3 (.slice A cur.length c) cur.length (c3s cur)) (h11 : Bk wr w.heap.size tArr (cutCells hs (.slice A cur.length c))) (h12 : Bk wr (w.heap.size + 1) tCuts cutStrs)
    (hq : ws[k]? = some q) (q1 : q.2.2 ≠ [47]) (q2 : q.2.2 ≠ [62]) (o : Obj) (ho : w9.ownsRow Wo.heap.size tWd 3 (.slice A' (cur.length + 1) c') (cur.length + 1) (c3s cur ++ c3 q)) (hg : (wr.alloc o).grownBy w9 (Value.slice A cur.length c).ownBlock) {cs0 : Array Value} (h13 : Bk Wo w.heap.size tArr cs0) :
    CutSt w ws (k + 1) n (w9.setCell ⟨w.heap.size, n, none⟩ (.slice A' (cur.length + 1) c')) := by
  have hown := h10.alloc o
  have b9 : Bk w9 w.heap.size tArr (cutCells hs (.slice A cur.length c)) := Bk.grown (h11.alloc o) hg hown (by decide)
  have c9 : Bk w9 (w.heap.size + 1) tCuts cutStrs := Bk.grown (h12.alloc o) hg hown (by decide)
  have hlow : ∀ g, (Value.slice A cur.length c).ownBlock = some g → Wo.heap.size ≤ g := fun g e => (h10.lt g e).1
  refine ⟨told, hs, cur ++ [q], A', c', Wo, h1, h2, h3, by simp; omega, ?_, h6, h7, h8, ?_, ?_, ?_, Bk.far c9 (by simp) _, ⟨cs0, h13⟩⟩
  · rw [← h5, dropW ws k q hq, partsGoP, if_pos ⟨q1, q2⟩]
  · have g1 : Wo.grownBy w9 (some w.heap.size) := ⟨hg.os.trans h9.os, hg.tape.trans h9.tape, hg.output.trans h9.output, Nat.le_trans h9.size (Nat.le_trans (by simp) hg.size), fun i hi hne => by
      refine ((hg.block i (by have := h9.size; simp; omega) fun e => ?_).trans (Below.heap_alloc _ _ _ (Nat.lt_of_lt_of_le hi h9.size))).trans (h9.block i hi hne)
      have := hlow i e.symm
      omega⟩
    exact grown_tr g1 (grown_set w9 ⟨w.heap.size, n, none⟩ _)
  · rw [List.length_append, c3s_append]
    have : c3s [q] = c3 q := by simp [c3s]
    rw [this]
    exact own_setBk ho b9 (by decide) n _
  · have := b9.set n (.slice A' (cur.length + 1) c')
    rw [← h1, cut_set] at this
    rw [List.length_append, ← h1]
    exact this
/-- the next part -/
theorem CutSt.next {w wr w9 : World} {ws : List P3} {k n : Nat} {told : List (List P3)} {hs : List Value} {cur : List P3} {A : Option Addr} {c : Nat} {Wo : World} {q : P3} (h1 : hs.length = n) (h2 : told.length = n) (h5 : partsGoP n cur told (ws.drop k) = partsL ws) (h6 : Below w.heap.size w Wo) (h7 : w.heap.size + 1 < Wo.heap.size) (h8 : RowsIn tWd Wo hs told)
    (h9 : Wo.grownBy wr (some w.heap.size)) (h10 : wr.ownsRow Wo.heap.size tWd 3 (.slice A cur.length c) cur.length (c3s cur)) (h11 : Bk wr w.heap.size tArr (cutCells hs (.slice A cur.length c))) (h12 : Bk wr (w.heap.size + 1) tCuts cutStrs) {cs0 : Array Value} (h13 : Bk Wo w.heap.size tArr cs0)
    (hq : ws[k]? = some q) (q1 : (n < 2 ∧ q.2.2 = [47]) ∨ (n = 2 ∧ q.2.2 = [62])) (hb : Below wr.heap.size wr w9) : CutSt w ws (k + 1) (n + 1) w9 := by
  have r1 := ((h8.keepW h13 h9 (by decide)).snoc (own_rdT h10) (own_cap h10)).below hb
  have s1 := h6.size
  have s2 := h9.size
  have s3 := hb.size
  refine ⟨told ++ [cur], hs ++ [.slice A cur.length c], [], none, 0, w9, by simp [h1], by simp [h2], by omega, by simp, ?_, ?_, by omega, r1, World.grownBy.refl _ _, World.ownsRow_nil _ _ _ _, ?_, h12.keep (hb.block _ h12.lt), ⟨_, h11.keep (hb.block _ h11.lt)⟩⟩
  · rw [← h5, dropW ws k q hq, partsGoP, if_neg ?_, if_pos q1]
    rintro ⟨g1, g2⟩
    rcases q1 with ⟨_, h⟩ | ⟨_, h⟩
    · exact g1 h
    · exact g2 h
  · exact ((h6.grown h9 h6.size (fun g e => by cases e; exact Nat.le_refl _))).trans (hb.mono (by omega))
  · rw [List.length_nil, cut_next _ _ (by omega)]
    exact h11.keep (hb.block _ h11.lt)
def CutPost (w : World) (ws : List P3) (e : Ending) (w' : World) : Prop :=
  Below w.heap.size w w' ∧ ∃ A0 k0 c0 A1 k1 c1 A2 k2 c2 A3 k3 c3, match partsL ws with
    | none => e = .returned (.tuple #[.agg #[.slice A0 k0 c0, .slice A1 k1 c1, .slice A2 k2 c2, .slice A3 k3 c3], .bool false])
    | some rows => e = .returned (.tuple #[.agg #[.slice A0 k0 c0, .slice A1 k1 c1, .slice A2 k2 c2, .slice A3 k3 c3], .bool true]) ∧ RowsIn tWd w' [.slice A0 k0 c0, .slice A1 k1 c1, .slice A2 k2 c2, .slice A3 k3 c3] rows
theorem cut_end {ws : List P3} {k n : Nat} {told : List (List P3)} {cur : List P3} (h5 : partsGoP n cur told (ws.drop k) = partsL ws) (hk : ws.length ≤ k) : partsL ws = if n = 3 then some (told ++ [cur]) else none := by
  rw [← h5, List.drop_eq_nil_of_le hk, partsGoP]
theorem cut_bad {ws : List P3} {k n : Nat} {told : List (List P3)} {cur : List P3} {q : P3} (h5 : partsGoP n cur told (ws.drop k) = partsL ws) (hq : ws[k]? = some q) (q0 : q.2.2 = [47] ∨ q.2.2 = [62]) (q1 : ¬ ((n < 2 ∧ q.2.2 = [47]) ∨ (n = 2 ∧ q.2.2 = [62]))) : partsL ws = none := by
  rw [← h5, dropW ws k q hq, partsGoP, if_neg ?_, if_neg q1]
  rintro ⟨g1, g2⟩
  rcases q0 with h | h
  · exact g1 h
  · exact g2 h
end Go.Proofs.YtkijckccfookeaaGreatDoor
