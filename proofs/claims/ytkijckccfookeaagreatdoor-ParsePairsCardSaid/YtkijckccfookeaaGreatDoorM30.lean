/- parse: glyph. Printed by gen_pao.py. -/
import Derived.Test.YtkijckccfookeaaGreatDoorPaN
import Derived.Test.YtkijckccfookeaaGreatDoorM17
namespace Go.Proofs.YtkijckccfookeaaGreatDoor
open Go.RowKit
attribute [-go_sem] Builtin.append_

theorem PSt.look {w : World} {Bd p gm cm : Nat} {gl : Gl} {s : PS} {rv : Rows} {K : Nat} (h : PSt w Bd p gm cm gl s rv K) (t : B) : (Instr.lookup 112 (.map (some gm)) (.string ⟨t.toArray⟩) false).run Tryz.prog w = .ok (.int .i64 (vGl gl t)) w := by
  have := h.gmp.look1 Tryz.underlying112 Tryz.underlying9 (zeroInt _) t
  have e : ((gl.lookup t).map fun n => Value.int .i64 (n : Nat)).getD (.int .i64 0) = .int .i64 (vGl gl t) := by
    unfold vGl
    cases gl.lookup t <;> rfl
  rw [e] at this
  exact this
theorem rGlyph_no (gl : Gl) (s : PS) (l : List B) (h : l.length ≠ 2) (h3 : ∀ a b, l ≠ [a, b, sMark]) : rGlyph gl s l = .error 22 := by
  unfold rGlyph
  split
  · rename_i n a r
    rw [if_neg]
    rintro (e | e)
    · subst e; exact h rfl
    · subst e; exact h3 _ _ rfl
  · rfl
theorem rGlyph_yes (gl : Gl) (s : PS) (t1 t2 : B) (r : List B) (hr : r = [] ∨ r = [sMark]) : rGlyph gl s (t1 :: t2 :: r) = if eNum (eName 0 t1) t2 ≠ 0 then .error (eNum (eName 0 t1) t2) else if vGl gl t1 ≠ s.f.glyphs.length then .error 24
       else .ok { s with f := { s.f with glyphs := s.f.glyphs ++ [⟨t1, numV t2, !r.isEmpty, [], [], [], [], [], []⟩] } } := by
  show (if r = [] ∨ r = [sMark] then _ else _) = _
  rw [if_pos hr]
set_option maxRecDepth 100000 in
set_option maxHeartbeats 4000000 in
theorem readGlyphP (w : World) (Bd p gm cm : Nat) (gl : Gl) (s : PS) (rv : Rows) (K : Nat) (A : Option Addr) (n c : Nat) (ws : List P3) (t t1 t2 : B) (hP : PSt w Bd p gm cm gl s rv K) (hL : LnAt w A n ws) (hT : txts ws = t :: [t1, t2]) (hK : K ≤ 10000000000) :
    Calls Tryz.prog 79 #[.pointer (some ⟨p, 0, none⟩), .slice A n c] w (StPost w Bd p gm cm gl (K + n) (rGlyph gl s [t1, t2])) := by
  have hn : n = 3 := by rw [← hL.length]; exact txts_cons hT
  have hB := hP.size
  obtain ⟨b, o, rfl, hb, q1, hz1⟩ := hL.word (k := 1) (t := t1) (by rw [hT]; rfl) (d := 3) rfl
  obtain ⟨b', o', e', -, q2, hz2⟩ := hL.word (k := 2) (t := t2) (by rw [hT]; rfl) (d := 6) rfl
  obtain ⟨rfl, rfl⟩ : b = b' ∧ o = o' := by simpa using e'
  clear e'
  subst hn
  have HP := Lib.hid hP
  have hpb : p < w.heap.size := hP.par.lt
  obtain ⟨A0, c0, hv⟩ := hP.slice (i := 0) (by decide)
  have kp : w.cell? ⟨p, 1, none⟩ = some (rv 0).v := hP.par.cell 1
  rw [hv] at kp
  have kg : w.cell? ⟨p, 10, none⟩ = some (.map (some gm)) := hP.par.cell 10
  have hfew := hP.few 0 (by decide)
  have hlen := hP.fnt.gly.1
  have HLn := Lib.hid hlen
  have HN1 := Lib.hid (fun w rb er h => name_ok w rb p er t1 h)
  have HN2 := Lib.hid (fun w rb er h => number_ok w rb p er t2 h hz2)
  have HI2 := Lib.hid (numV_i64 t2)
  have HR := Lib.hid (rGlyph_yes gl s t1 t2 [] (by simp))
  have HLK := Lib.hid (fun w rv K (h : PSt w Bd p gm cm gl s rv K) => h.look t1)
  generalize numV t2 = v2 at *
  generalize vGl gl t1 = vg at *
  clear hP hL hT hz1 hz2 hlen
  go_enter Tryz.func79, Tryz.ntmps79
  go_wp2_with fail
  refine (read_ok w p).mono ?_
  rintro e w1 ⟨rfl, hr1, hb1⟩
  obtain ⟨hc1, hf1⟩ := bcell hb1
  have p1_1 : w1.cell? ⟨b, o + 3 + 2, none⟩ = some (.string ⟨t1.toArray⟩) := (hc1 _ _ hb).trans q1
  have hl1 := hr1.lt
  have hs1 := hb1.size
  have hbl : b < w1.heap.size := by omega
  have hbc : b ≠ w1.heap.size := by omega
  have hpc : p ≠ w1.heap.size := by omega
  have Hr1 := Lib.hid (hr1.alloc (.cells #[.string ⟨#[]⟩, .int .i64 0, .bool false, .slice none 0 0, .slice none 0 0, .slice none 0 0, .slice none 0 0, .slice none 0 0, .slice none 0 0] 59))
  have Hb1 := Lib.hid (hb1.alloc hs1 (.cells #[.string ⟨#[]⟩, .int .i64 0, .bool false, .slice none 0 0, .slice none 0 0, .slice none 0 0, .slice none 0 0, .slice none 0 0, .slice none 0 0] 59))
  have HK1 : Hid (Bk (w1.alloc (.cells #[.string ⟨#[]⟩, .int .i64 0, .bool false, .slice none 0 0, .slice none 0 0, .slice none 0 0, .slice none 0 0, .slice none 0 0, .slice none 0 0] 59)) w1.heap.size 59 #[.string ⟨#[]⟩, .int .i64 0, .bool false, .slice none 0 0, .slice none 0 0, .slice none 0 0, .slice none 0 0, .slice none 0 0, .slice none 0 0]) := Bk.new _ _ _
  clear hr1 hb1 hc1 hf1
  go_wp2_with fail
  refine (HN1.out _ _ _ (by exact Hr1.out)).mono ?_
  rintro e w2 ⟨rfl, hr2, hg2⟩
  have hb2 := below_rdr Hb1.out hg2 (Nat.le_refl _)
  obtain ⟨hc2, hf2⟩ := bcell hb2
  have hk2 : Bk w2 w1.heap.size 59 #[.string ⟨#[]⟩, .int .i64 0, .bool false, .slice none 0 0, .slice none 0 0, .slice none 0 0, .slice none 0 0, .slice none 0 0, .slice none 0 0] := Bk.kept2 hg2 HK1.out (by omega)
  have k2_0 : w2.cell? ⟨w1.heap.size, 0, none⟩ = some (.string ⟨#[]⟩) := hk2.cell 0
  have y2 := hk2.frozen 0
  have hs2 := hk2.lt
  have p2_2 : w2.cell? ⟨b, o + 6 + 2, none⟩ = some (.string ⟨t2.toArray⟩) := (hc2 _ _ hb).trans q2
  have Hr2 : Hid (Rdr (w2.setCell ⟨w1.heap.size, 0, none⟩ (.string ⟨t1.toArray⟩)) w.heap.size p (eName 0 t1)) := Bk.far hr2 (by simp; omega) _
  have Hb2 := Lib.hid (hb2.setCell (p := ⟨w1.heap.size, 0, none⟩) (by simp; omega) (.string ⟨t1.toArray⟩))
  have HK2 : Hid (Bk (w2.setCell ⟨w1.heap.size, 0, none⟩ (.string ⟨t1.toArray⟩)) w1.heap.size 59 #[.string ⟨t1.toArray⟩, .int .i64 0, .bool false, .slice none 0 0, .slice none 0 0, .slice none 0 0, .slice none 0 0, .slice none 0 0, .slice none 0 0]) := hk2.set 0 _
  clear hr2 hg2 hb2 hk2 hc2 hf2
  go_wp2_with fail
  refine (HN2.out _ _ _ (by exact Hr2.out)).mono ?_
  rintro e w3 ⟨rfl, hr3, hg3⟩
  have hb3 := below_rdr Hb2.out hg3 (Nat.le_refl _)
  have hk3 : Bk w3 w1.heap.size 59 #[.string ⟨t1.toArray⟩, .int .i64 0, .bool false, .slice none 0 0, .slice none 0 0, .slice none 0 0, .slice none 0 0, .slice none 0 0, .slice none 0 0] := Bk.kept2 hg3 HK2.out (by omega)
  have k3_1 : w3.cell? ⟨w1.heap.size, 1, none⟩ = some (.int .i64 0) := hk3.cell 1
  have y3 := hk3.frozen 1
  have k3_e : w3.cell? ⟨w.heap.size, 1, none⟩ = some (.int .i64 (eNum (eName 0 t1) t2)) := hr3.cell 1
  have Hr3 : Hid (Rdr (w3.setCell ⟨w1.heap.size, 1, none⟩ (.int .i64 v2)) w.heap.size p (eNum (eName 0 t1) t2)) := Bk.far hr3 (by simp; omega) _
  have Hb3 := Lib.hid (hb3.setCell (p := ⟨w1.heap.size, 1, none⟩) (by simp; omega) (.int .i64 v2))
  have HK3 : Hid (Bk (w3.setCell ⟨w1.heap.size, 1, none⟩ (.int .i64 v2)) w1.heap.size 59 #[.string ⟨t1.toArray⟩, .int .i64 v2, .bool false, .slice none 0 0, .slice none 0 0, .slice none 0 0, .slice none 0 0, .slice none 0 0, .slice none 0 0]) := hk3.set 1 _
  have hrc : w.heap.size ≠ w1.heap.size := by omega
  clear hr3 hg3 hb3 hk3
  generalize eNum (eName 0 t1) t2 = er at *
  by_cases he : er = 0
  · subst he
    obtain ⟨W1, hW1⟩ : ∃ W1, w3.setCell ⟨w1.heap.size, 1, none⟩ (.int .i64 v2) = W1 := ⟨_, rfl⟩
    have Hr := Hr3
    have Hb := Hb3
    have HKb := HK3
    rw [hW1] at Hr Hb HKb
    have HPW := HP.out.below Hb.out
    have hlk := HLK.out _ _ _ HPW
    have hlkd : (Instr.lookup 112 (.map (some gm)) (.string ⟨t1.toArray⟩) false).run Tryz.prog W1.drew = .ok (.int .i64 vg) W1.drew := HLK.out W1.drew rv K (HPW.drewN 1)
    have a_p : W1.cell? ⟨p, 1, none⟩ = some (.slice A0 (rv 0).n c0) := ((bcell Hb.out).1 _ _ hpb).trans kp
    have a_g : W1.cell? ⟨p, 10, none⟩ = some (.map (some gm)) := ((bcell Hb.out).1 _ _ hpb).trans kg
    have a_0 : W1.cell? ⟨w1.heap.size, 0, none⟩ = some (.string ⟨t1.toArray⟩) := HKb.out.cell 0
    have a_e : W1.cell? ⟨w.heap.size, 1, none⟩ = some (.int .i64 0) := Hr.out.cell 1
    have a_1 : W1.cell? ⟨w1.heap.size, 1, none⟩ = some (.int .i64 v2) := HKb.out.cell 1
    have a_2 : W1.cell? ⟨w1.heap.size, 2, none⟩ = some (.bool false) := HKb.out.cell 2
    have a_3 : W1.cell? ⟨w1.heap.size, 3, none⟩ = some (.slice none 0 0) := HKb.out.cell 3
    have a_4 : W1.cell? ⟨w1.heap.size, 4, none⟩ = some (.slice none 0 0) := HKb.out.cell 4
    have a_5 : W1.cell? ⟨w1.heap.size, 5, none⟩ = some (.slice none 0 0) := HKb.out.cell 5
    have a_6 : W1.cell? ⟨w1.heap.size, 6, none⟩ = some (.slice none 0 0) := HKb.out.cell 6
    have a_7 : W1.cell? ⟨w1.heap.size, 7, none⟩ = some (.slice none 0 0) := HKb.out.cell 7
    have a_8 : W1.cell? ⟨w1.heap.size, 8, none⟩ = some (.slice none 0 0) := HKb.out.cell 8
    have zp : p < W1.heap.size := HPW.par.lt
    have zc : w1.heap.size < W1.heap.size := HKb.out.lt
    have zr : w.heap.size < W1.heap.size := Hr.out.lt
    by_cases hvg : vg = ((rv 0).n : Int)
    · have HR2 : Hid (rGlyph gl s [t1, t2] = .ok { s with f := { s.f with glyphs := s.f.glyphs ++ [⟨t1, v2, false, [], [], [], [], [], []⟩] } }) := by
        show _ = _
        rw [HR.out, if_neg (by simp), if_neg (by rw [hvg, HLn.out]; simp)]
        rfl
      subst hvg
      go_wp2_with fail
      try rw [hW1]
      go_region
      all_goals
        obtain ⟨W2, hW2⟩ : ∃ W2, W1.drew = W2 := ⟨_, rfl⟩
        try rw [hW2]
        have b_p : W2.cell? ⟨p, 1, none⟩ = some (.slice A0 (rv 0).n c0) := by rw [← hW2]; exact a_p
        have b_0 : W2.cell? ⟨w1.heap.size, 0, none⟩ = some (.string ⟨t1.toArray⟩) := by rw [← hW2]; exact a_0
        have b_1 : W2.cell? ⟨w1.heap.size, 1, none⟩ = some (.int .i64 v2) := by rw [← hW2]; exact a_1
        have b_2 : W2.cell? ⟨w1.heap.size, 2, none⟩ = some (.bool false) := by rw [← hW2]; exact a_2
        have b_3 : W2.cell? ⟨w1.heap.size, 3, none⟩ = some (.slice none 0 0) := by rw [← hW2]; exact a_3
        have b_4 : W2.cell? ⟨w1.heap.size, 4, none⟩ = some (.slice none 0 0) := by rw [← hW2]; exact a_4
        have b_5 : W2.cell? ⟨w1.heap.size, 5, none⟩ = some (.slice none 0 0) := by rw [← hW2]; exact a_5
        have b_6 : W2.cell? ⟨w1.heap.size, 6, none⟩ = some (.slice none 0 0) := by rw [← hW2]; exact a_6
        have b_7 : W2.cell? ⟨w1.heap.size, 7, none⟩ = some (.slice none 0 0) := by rw [← hW2]; exact a_7
        have b_8 : W2.cell? ⟨w1.heap.size, 8, none⟩ = some (.slice none 0 0) := by rw [← hW2]; exact a_8
        have x_p : p < W2.heap.size := by rw [← hW2]; exact zp
        have x_c : w1.heap.size < W2.heap.size := by rw [← hW2]; exact zc
        have HP2 : PSt W2 Bd p gm cm gl s rv K := by rw [← hW2]; exact HPW.drewN 1
        have HB2 : Below w.heap.size w W2 := by rw [← hW2]; exact Hb.out.drew
        have hown := HP2.live.own 0 (by decide)
        rw [hv] at hown
        obtain ⟨A5, c5, w9, hrun, ho9, hg9, hl9⟩ := run_push elGlyph 24 W2 Bd _ c0 A0 _ #[.string ⟨t1.toArray⟩, .int .i64 v2, .bool false, .slice none 0 0, .slice none 0 0, .slice none 0 0, .slice none 0 0, .slice none 0 0, .slice none 0 0] rfl hown (by simp [Value.oneCell']) (by omega) HP2.size
        rw [← hv] at hg9 hl9
        have hp9 : Bk w9 p tPar (parCells s rv gm cm) := (HP2.row (i := 0) (by decide) (r := ⟨.slice A5 ((rv 0).n + 1) c5, _, _⟩) hg9 ho9 hl9).1
        have x9 : w9.cell? ⟨p, 1, none⟩ = some (rv 0).v := hp9.cell 1
        have y9 := hp9.frozen 1
        have Hpush := Lib.hid (HP2.newGlyph (nm := t1) (adv := v2) (mk := false) hg9 ho9 hl9 HI2.out (K' := K + 3) (by omega))
        have Hlow := Lib.hid ((HB2.mono hB).trans (HP2.push_low (i := 0) (by decide) hg9 1 (.slice A5 ((rv 0).n + 1) c5) HP2.size))
        have HQ := Lib.hid (KQ.below (cm := cm) HB2)
        clear HLK hlk hlkd Hr1 Hr2 Hr3 Hb1 Hb2 Hb3 HK1 HK2 HK3 HN1 HN2 hW1 hW2 k2_0 k3_1 k3_e y2 y3 hown ho9 hg9 hl9 hp9 HP2 HB2 HPW Hr Hb HKb a_p a_g a_0 a_1 a_2 a_3 a_4 a_5 a_6 a_7 a_8 a_e
        go_wp2_with fail
        go_region
        all_goals
          go_wp2
          go_ret
          obtain ⟨rv', g1, g2⟩ := Hpush.out
          exact StPost.good HR2.out Hlow.out (HQ.out.trans g2) g1
    · have HR2 : Hid (rGlyph gl s [t1, t2] = .error 24) := by
        show _ = _
        rw [HR.out, if_neg (by simp), if_pos (by rw [← HLn.out]; exact hvg)]
      have e3 : (vg != ((rv 0).n : Int)) = true := by simpa using hvg
      clear hvg
      go_wp2_with fail
      try rw [hW1]
      go_region
      all_goals
        go_wp2
        go_ret
        exact StPost.bad HR2.out (Hb.out.drew.mono hB)
  · have HR2 : Hid (rGlyph gl s [t1, t2] = .error er) := by
      show _ = _
      rw [HR.out, if_pos he]
    have e1 : (er == 0) = false := by simpa using he
    have e2 : (er != 0) = true := by simpa using he
    clear he
    go_wp2
    go_ret
    exact StPost.bad HR2.out (Hb3.out.mono hB)
end Go.Proofs.YtkijckccfookeaaGreatDoor
/- parse: glyph, with 'mark'; all glyphs. Printed by gen_pap.py. -/
namespace Go.Proofs.YtkijckccfookeaaGreatDoor
open Go.RowKit
attribute [-go_sem] Builtin.append_

set_option maxRecDepth 100000 in
set_option maxHeartbeats 4000000 in
theorem readGlyphM (w : World) (Bd p gm cm : Nat) (gl : Gl) (s : PS) (rv : Rows) (K : Nat) (A : Option Addr) (n c : Nat) (ws : List P3) (t t1 t2 : B) (hP : PSt w Bd p gm cm gl s rv K) (hL : LnAt w A n ws) (hT : txts ws = t :: [t1, t2, sMark]) (hK : K ≤ 10000000000) :
    Calls Tryz.prog 79 #[.pointer (some ⟨p, 0, none⟩), .slice A n c] w (StPost w Bd p gm cm gl (K + n) (rGlyph gl s [t1, t2, sMark])) := by
  have hn : n = 4 := by rw [← hL.length]; exact txts_cons hT
  have hB := hP.size
  obtain ⟨b, o, rfl, hb, q1, hz1⟩ := hL.word (k := 1) (t := t1) (by rw [hT]; rfl) (d := 3) rfl
  obtain ⟨b', o', e', -, q2, hz2⟩ := hL.word (k := 2) (t := t2) (by rw [hT]; rfl) (d := 6) rfl
  obtain ⟨rfl, rfl⟩ : b = b' ∧ o = o' := by simpa using e'
  clear e'
  obtain ⟨b', o', e', -, q3, hz3⟩ := hL.word (k := 3) (t := sMark) (by rw [hT]; rfl) (d := 9) rfl
  obtain ⟨rfl, rfl⟩ : b = b' ∧ o = o' := by simpa using e'
  clear e' hz3
  have hsm : sMark.toArray = #[109, 97, 114, 107] := rfl
  rw [hsm] at q3
  subst hn
  have HP := Lib.hid hP
  have hpb : p < w.heap.size := hP.par.lt
  obtain ⟨A0, c0, hv⟩ := hP.slice (i := 0) (by decide)
  have kp : w.cell? ⟨p, 1, none⟩ = some (rv 0).v := hP.par.cell 1
  rw [hv] at kp
  have kg : w.cell? ⟨p, 10, none⟩ = some (.map (some gm)) := hP.par.cell 10
  have hfew := hP.few 0 (by decide)
  have hlen := hP.fnt.gly.1
  have HLn := Lib.hid hlen
  have HN1 := Lib.hid (fun w rb er h => name_ok w rb p er t1 h)
  have HN2 := Lib.hid (fun w rb er h => number_ok w rb p er t2 h hz2)
  have HI2 := Lib.hid (numV_i64 t2)
  have HR := Lib.hid (rGlyph_yes gl s t1 t2 [sMark] (by simp))
  have HLK := Lib.hid (fun w rv K (h : PSt w Bd p gm cm gl s rv K) => h.look t1)
  generalize numV t2 = v2 at *
  generalize vGl gl t1 = vg at *
  clear hP hL hT hz1 hz2 hlen
  go_enter Tryz.func79, Tryz.ntmps79
  go_wp2_with fail
  refine (read_ok w p).mono ?_
  rintro e w1 ⟨rfl, hr1, hb1⟩
  obtain ⟨hc1, hf1⟩ := bcell hb1
  have p1_1 : w1.cell? ⟨b, o + 3 + 2, none⟩ = some (.string ⟨t1.toArray⟩) := (hc1 _ _ hb).trans q1
  have hl1 := hr1.lt
  have hs1 := hb1.size
  have hbl : b < w1.heap.size := by omega
  have hbc : b ≠ w1.heap.size := by omega
  have hpc : p ≠ w1.heap.size := by omega
  have Hr1 := Lib.hid (hr1.alloc (.cells #[.string ⟨#[]⟩, .int .i64 0, .bool true, .slice none 0 0, .slice none 0 0, .slice none 0 0, .slice none 0 0, .slice none 0 0, .slice none 0 0] 59))
  have Hb1 := Lib.hid (hb1.alloc hs1 (.cells #[.string ⟨#[]⟩, .int .i64 0, .bool true, .slice none 0 0, .slice none 0 0, .slice none 0 0, .slice none 0 0, .slice none 0 0, .slice none 0 0] 59))
  have HK1 : Hid (Bk (w1.alloc (.cells #[.string ⟨#[]⟩, .int .i64 0, .bool true, .slice none 0 0, .slice none 0 0, .slice none 0 0, .slice none 0 0, .slice none 0 0, .slice none 0 0] 59)) w1.heap.size 59 #[.string ⟨#[]⟩, .int .i64 0, .bool true, .slice none 0 0, .slice none 0 0, .slice none 0 0, .slice none 0 0, .slice none 0 0, .slice none 0 0]) := Bk.new _ _ _
  clear hr1 hb1 hc1 hf1
  go_wp2_with fail
  refine (HN1.out _ _ _ (by exact Hr1.out)).mono ?_
  rintro e w2 ⟨rfl, hr2, hg2⟩
  have hb2 := below_rdr Hb1.out hg2 (Nat.le_refl _)
  obtain ⟨hc2, hf2⟩ := bcell hb2
  have hk2 : Bk w2 w1.heap.size 59 #[.string ⟨#[]⟩, .int .i64 0, .bool true, .slice none 0 0, .slice none 0 0, .slice none 0 0, .slice none 0 0, .slice none 0 0, .slice none 0 0] := Bk.kept2 hg2 HK1.out (by omega)
  have k2_0 : w2.cell? ⟨w1.heap.size, 0, none⟩ = some (.string ⟨#[]⟩) := hk2.cell 0
  have y2 := hk2.frozen 0
  have hs2 := hk2.lt
  have p2_2 : w2.cell? ⟨b, o + 6 + 2, none⟩ = some (.string ⟨t2.toArray⟩) := (hc2 _ _ hb).trans q2
  have Hr2 : Hid (Rdr (w2.setCell ⟨w1.heap.size, 0, none⟩ (.string ⟨t1.toArray⟩)) w.heap.size p (eName 0 t1)) := Bk.far hr2 (by simp; omega) _
  have Hb2 := Lib.hid (hb2.setCell (p := ⟨w1.heap.size, 0, none⟩) (by simp; omega) (.string ⟨t1.toArray⟩))
  have HK2 : Hid (Bk (w2.setCell ⟨w1.heap.size, 0, none⟩ (.string ⟨t1.toArray⟩)) w1.heap.size 59 #[.string ⟨t1.toArray⟩, .int .i64 0, .bool true, .slice none 0 0, .slice none 0 0, .slice none 0 0, .slice none 0 0, .slice none 0 0, .slice none 0 0]) := hk2.set 0 _
  clear hr2 hg2 hb2 hk2 hc2 hf2
  go_wp2_with fail
  refine (HN2.out _ _ _ (by exact Hr2.out)).mono ?_
  rintro e w3 ⟨rfl, hr3, hg3⟩
  have hb3 := below_rdr Hb2.out hg3 (Nat.le_refl _)
  have hk3 : Bk w3 w1.heap.size 59 #[.string ⟨t1.toArray⟩, .int .i64 0, .bool true, .slice none 0 0, .slice none 0 0, .slice none 0 0, .slice none 0 0, .slice none 0 0, .slice none 0 0] := Bk.kept2 hg3 HK2.out (by omega)
  have k3_1 : w3.cell? ⟨w1.heap.size, 1, none⟩ = some (.int .i64 0) := hk3.cell 1
  have y3 := hk3.frozen 1
  have k3_e : w3.cell? ⟨w.heap.size, 1, none⟩ = some (.int .i64 (eNum (eName 0 t1) t2)) := hr3.cell 1
  have Hr3 : Hid (Rdr (w3.setCell ⟨w1.heap.size, 1, none⟩ (.int .i64 v2)) w.heap.size p (eNum (eName 0 t1) t2)) := Bk.far hr3 (by simp; omega) _
  have Hb3 := Lib.hid (hb3.setCell (p := ⟨w1.heap.size, 1, none⟩) (by simp; omega) (.int .i64 v2))
  have HK3 : Hid (Bk (w3.setCell ⟨w1.heap.size, 1, none⟩ (.int .i64 v2)) w1.heap.size 59 #[.string ⟨t1.toArray⟩, .int .i64 v2, .bool true, .slice none 0 0, .slice none 0 0, .slice none 0 0, .slice none 0 0, .slice none 0 0, .slice none 0 0]) := hk3.set 1 _
  have hrc : w.heap.size ≠ w1.heap.size := by omega
  clear hr3 hg3 hb3 hk3
  generalize eNum (eName 0 t1) t2 = er at *
  by_cases he : er = 0
  · subst he
    obtain ⟨W1, hW1⟩ : ∃ W1, w3.setCell ⟨w1.heap.size, 1, none⟩ (.int .i64 v2) = W1 := ⟨_, rfl⟩
    have Hr := Hr3
    have Hb := Hb3
    have HKb := HK3
    rw [hW1] at Hr Hb HKb
    have HPW := HP.out.below Hb.out
    have hlk := HLK.out _ _ _ HPW
    have hlkd : (Instr.lookup 112 (.map (some gm)) (.string ⟨t1.toArray⟩) false).run Tryz.prog W1.drew = .ok (.int .i64 vg) W1.drew := HLK.out W1.drew rv K (HPW.drewN 1)
    have a_p : W1.cell? ⟨p, 1, none⟩ = some (.slice A0 (rv 0).n c0) := ((bcell Hb.out).1 _ _ hpb).trans kp
    have a_g : W1.cell? ⟨p, 10, none⟩ = some (.map (some gm)) := ((bcell Hb.out).1 _ _ hpb).trans kg
    have a_0 : W1.cell? ⟨w1.heap.size, 0, none⟩ = some (.string ⟨t1.toArray⟩) := HKb.out.cell 0
    have a_e : W1.cell? ⟨w.heap.size, 1, none⟩ = some (.int .i64 0) := Hr.out.cell 1
    have a_1 : W1.cell? ⟨w1.heap.size, 1, none⟩ = some (.int .i64 v2) := HKb.out.cell 1
    have a_2 : W1.cell? ⟨w1.heap.size, 2, none⟩ = some (.bool true) := HKb.out.cell 2
    have a_3 : W1.cell? ⟨w1.heap.size, 3, none⟩ = some (.slice none 0 0) := HKb.out.cell 3
    have a_4 : W1.cell? ⟨w1.heap.size, 4, none⟩ = some (.slice none 0 0) := HKb.out.cell 4
    have a_5 : W1.cell? ⟨w1.heap.size, 5, none⟩ = some (.slice none 0 0) := HKb.out.cell 5
    have a_6 : W1.cell? ⟨w1.heap.size, 6, none⟩ = some (.slice none 0 0) := HKb.out.cell 6
    have a_7 : W1.cell? ⟨w1.heap.size, 7, none⟩ = some (.slice none 0 0) := HKb.out.cell 7
    have a_8 : W1.cell? ⟨w1.heap.size, 8, none⟩ = some (.slice none 0 0) := HKb.out.cell 8
    have zp : p < W1.heap.size := HPW.par.lt
    have zc : w1.heap.size < W1.heap.size := HKb.out.lt
    have zr : w.heap.size < W1.heap.size := Hr.out.lt
    by_cases hvg : vg = ((rv 0).n : Int)
    · have HR2 : Hid (rGlyph gl s [t1, t2, sMark] = .ok { s with f := { s.f with glyphs := s.f.glyphs ++ [⟨t1, v2, true, [], [], [], [], [], []⟩] } }) := by
        show _ = _
        rw [HR.out, if_neg (by simp), if_neg (by rw [hvg, HLn.out]; simp)]
        rfl
      subst hvg
      go_wp2_with fail
      try rw [hW1]
      go_region
      all_goals
        obtain ⟨W2, hW2⟩ : ∃ W2, W1.drew = W2 := ⟨_, rfl⟩
        try rw [hW2]
        have b_p : W2.cell? ⟨p, 1, none⟩ = some (.slice A0 (rv 0).n c0) := by rw [← hW2]; exact a_p
        have b_0 : W2.cell? ⟨w1.heap.size, 0, none⟩ = some (.string ⟨t1.toArray⟩) := by rw [← hW2]; exact a_0
        have b_1 : W2.cell? ⟨w1.heap.size, 1, none⟩ = some (.int .i64 v2) := by rw [← hW2]; exact a_1
        have b_2 : W2.cell? ⟨w1.heap.size, 2, none⟩ = some (.bool true) := by rw [← hW2]; exact a_2
        have b_3 : W2.cell? ⟨w1.heap.size, 3, none⟩ = some (.slice none 0 0) := by rw [← hW2]; exact a_3
        have b_4 : W2.cell? ⟨w1.heap.size, 4, none⟩ = some (.slice none 0 0) := by rw [← hW2]; exact a_4
        have b_5 : W2.cell? ⟨w1.heap.size, 5, none⟩ = some (.slice none 0 0) := by rw [← hW2]; exact a_5
        have b_6 : W2.cell? ⟨w1.heap.size, 6, none⟩ = some (.slice none 0 0) := by rw [← hW2]; exact a_6
        have b_7 : W2.cell? ⟨w1.heap.size, 7, none⟩ = some (.slice none 0 0) := by rw [← hW2]; exact a_7
        have b_8 : W2.cell? ⟨w1.heap.size, 8, none⟩ = some (.slice none 0 0) := by rw [← hW2]; exact a_8
        have x_p : p < W2.heap.size := by rw [← hW2]; exact zp
        have x_c : w1.heap.size < W2.heap.size := by rw [← hW2]; exact zc
        have HP2 : PSt W2 Bd p gm cm gl s rv K := by rw [← hW2]; exact HPW.drewN 1
        have HB2 : Below w.heap.size w W2 := by rw [← hW2]; exact Hb.out.drew
        have hown := HP2.live.own 0 (by decide)
        rw [hv] at hown
        obtain ⟨A5, c5, w9, hrun, ho9, hg9, hl9⟩ := run_push elGlyph 24 W2 Bd _ c0 A0 _ #[.string ⟨t1.toArray⟩, .int .i64 v2, .bool true, .slice none 0 0, .slice none 0 0, .slice none 0 0, .slice none 0 0, .slice none 0 0, .slice none 0 0] rfl hown (by simp [Value.oneCell']) (by omega) HP2.size
        rw [← hv] at hg9 hl9
        have hp9 : Bk w9 p tPar (parCells s rv gm cm) := (HP2.row (i := 0) (by decide) (r := ⟨.slice A5 ((rv 0).n + 1) c5, _, _⟩) hg9 ho9 hl9).1
        have x9 : w9.cell? ⟨p, 1, none⟩ = some (rv 0).v := hp9.cell 1
        have y9 := hp9.frozen 1
        have Hpush := Lib.hid (HP2.newGlyph (nm := t1) (adv := v2) (mk := true) hg9 ho9 hl9 HI2.out (K' := K + 4) (by omega))
        have Hlow := Lib.hid ((HB2.mono hB).trans (HP2.push_low (i := 0) (by decide) hg9 1 (.slice A5 ((rv 0).n + 1) c5) HP2.size))
        have HQ := Lib.hid (KQ.below (cm := cm) HB2)
        clear HLK hlk hlkd Hr1 Hr2 Hr3 Hb1 Hb2 Hb3 HK1 HK2 HK3 HN1 HN2 hW1 hW2 k2_0 k3_1 k3_e y2 y3 hown ho9 hg9 hl9 hp9 HP2 HB2 HPW Hr Hb HKb a_p a_g a_0 a_1 a_2 a_3 a_4 a_5 a_6 a_7 a_8 a_e
        go_wp2_with fail
        go_region
        all_goals
          go_wp2
          go_ret
          obtain ⟨rv', g1, g2⟩ := Hpush.out
          exact StPost.good HR2.out Hlow.out (HQ.out.trans g2) g1
    · have HR2 : Hid (rGlyph gl s [t1, t2, sMark] = .error 24) := by
        show _ = _
        rw [HR.out, if_neg (by simp), if_pos (by rw [← HLn.out]; exact hvg)]
      have e3 : (vg != ((rv 0).n : Int)) = true := by simpa using hvg
      clear hvg
      go_wp2_with fail
      try rw [hW1]
      go_region
      all_goals
        go_wp2
        go_ret
        exact StPost.bad HR2.out (Hb.out.drew.mono hB)
  · have HR2 : Hid (rGlyph gl s [t1, t2, sMark] = .error er) := by
      show _ = _
      rw [HR.out, if_pos he]
    have e1 : (er == 0) = false := by simpa using he
    have e2 : (er != 0) = true := by simpa using he
    clear he
    go_wp2
    go_ret
    exact StPost.bad HR2.out (Hb3.out.mono hB)
set_option maxRecDepth 100000 in
set_option maxHeartbeats 4000000 in
theorem readGlyphS (w : World) (Bd p gm cm : Nat) (gl : Gl) (s : PS) (rv : Rows) (K : Nat) (A : Option Addr) (n c : Nat) (ws : List P3) (t : B) (l : List B) (hP : PSt w Bd p gm cm gl s rv K) (hL : LnAt w A n ws) (hT : txts ws = t :: l) (h2 : l.length ≠ 2) (h3 : ∀ a b, l ≠ [a, b, sMark]) :
    Calls Tryz.prog 79 #[.pointer (some ⟨p, 0, none⟩), .slice A n c] w (StPost w Bd p gm cm gl (K + n) (rGlyph gl s l)) := by
  have hn : n = l.length + 1 := by rw [← hL.length]; exact txts_cons hT
  have hB := hP.size
  have HR := Lib.hid (rGlyph_no gl s l h2 h3)
  by_cases h4 : l.length = 3
  · obtain ⟨t1, t2, t3, rfl⟩ : ∃ t1 t2 t3, l = [t1, t2, t3] := by
      match l, h4 with
      | [a, b, c], _ => exact ⟨a, b, c, rfl⟩
    obtain ⟨b, o, rfl, hb, q3, hz3⟩ := hL.word (k := 3) (t := t3) (by rw [hT]; rfl) (d := 9) rfl
    have h5 : t3 ≠ sMark := fun e => h3 t1 t2 (by rw [e])
    have e3 : (t3 == [109, 97, 114, 107]) = false := by
      rw [beq_eq_false_iff_ne]
      exact h5
    simp only [List.length_cons, List.length_nil] at hn
    subst hn
    clear hP hL hT h2 h3 h4 h5 hz3
    go_enter Tryz.func79, Tryz.ntmps79
    go_wp2
    go_ret
    exact StPost.bad HR.out (Below.refl _ _)
  · have e4 : ((n : Int) == 4) = false := by simp; omega
    have e3 : ((n : Int) == 3) = false := by simp; omega
    have e5 : ((n : Int) != 3) = true := by simp; omega
    clear hP hL hT h2 h3 h4 hn
    go_enter Tryz.func79, Tryz.ntmps79
    go_wp2
    go_ret
    exact StPost.bad HR.out (Below.refl _ _)
theorem readGlyph_ok (w : World) (Bd p gm cm : Nat) (gl : Gl) (s : PS) (rv : Rows) (K : Nat) (A : Option Addr) (n c : Nat) (ws : List P3) (t : B) (l : List B) (hP : PSt w Bd p gm cm gl s rv K) (hL : LnAt w A n ws) (hT : txts ws = t :: l) (hK : K ≤ 10000000000) :
    Calls Tryz.prog 79 #[.pointer (some ⟨p, 0, none⟩), .slice A n c] w (StPost w Bd p gm cm gl (K + n) (rGlyph gl s l)) := by
  by_cases h2 : l.length = 2
  · obtain ⟨t1, t2, rfl⟩ : ∃ t1 t2, l = [t1, t2] := by
      match l, h2 with
      | [a, b], _ => exact ⟨a, b, rfl⟩
    exact readGlyphP w Bd p gm cm gl s rv K A n c ws t t1 t2 hP hL hT hK
  · by_cases h3 : ∃ a b, l = [a, b, sMark]
    · obtain ⟨t1, t2, rfl⟩ := h3
      exact readGlyphM w Bd p gm cm gl s rv K A n c ws t t1 t2 hP hL hT hK
    · exact readGlyphS w Bd p gm cm gl s rv K A n c ws t l hP hL hT h2 (fun a b e => h3 ⟨a, b, e⟩)
end Go.Proofs.YtkijckccfookeaaGreatDoor
