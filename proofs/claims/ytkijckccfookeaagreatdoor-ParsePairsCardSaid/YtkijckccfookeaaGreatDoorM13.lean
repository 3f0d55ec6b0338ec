/- What parse's tables hold when the call begins. -/
import Derived.Test.YtkijckccfookeaaGreatDoorM03
import Derived.Test.YtkijckccfookeaaGreatDoorPaE
namespace Go.Proofs.YtkijckccfookeaaGreatDoor
open Go.RowKit

theorem laid_ptabs {w : World} {l : List (String × DataW Unit)} (h : laidMet Tryz.prog l w)
    (m1 : ("fleuron/parse.opNames", Rows.laid_fleuron_parse_opNames) ∈ l) (m2 : ("fleuron/parse.anchorNames", Rows.laid_fleuron_parse_anchorNames) ∈ l) (m3 : ("fleuron/parse.lookupNames", Rows.laid_fleuron_parse_lookupNames) ∈ l) : PTabs w ∧ nT ≤ w.heap.size :=
  ⟨⟨tabS_strs (laid_reads h m1) (by kernel_rfl) (by kernel_rfl) Tryz.underlying144 Tryz.underlying9 (by kernel_rfl) (by kernel_rfl),
   tabS_strs (laid_reads h m2) (by kernel_rfl) (by kernel_rfl) Tryz.underlying205 Tryz.underlying9 (by kernel_rfl) (by kernel_rfl),
   tabS_strs (laid_reads h m3) (by kernel_rfl) (by kernel_rfl) Tryz.underlying206 Tryz.underlying9 (by kernel_rfl) (by kernel_rfl)⟩,
   var_lt (laid_reads h m3) (by kernel_rfl)⟩
end Go.Proofs.YtkijckccfookeaaGreatDoor
/- parse: a set as it is written. Printed by gen_paf.py. -/
namespace Go.Proofs.YtkijckccfookeaaGreatDoor
open Go.RowKit

theorem RRow.rdr {e size : Nat} {w wr : World} {rb p : Nat} {err : Int} {n : Nat} {xs : List Value} {v : Value} (h : RRow e size w rb p err n xs v wr) : Rdr wr rb p err := by
  obtain ⟨A, c, -, -, h, -⟩ := h
  exact h
theorem RRow.grown {e size : Nat} {w wr : World} {rb p : Nat} {err : Int} {n : Nat} {xs : List Value} {v : Value} (h : RRow e size w rb p err n xs v wr) : w.grownBy wr (some rb) := by
  obtain ⟨A, c, -, -, -, h⟩ := h
  exact h
/-- the reader reads on -/
theorem RRow.after {e size : Nat} {w wr w1 : World} {rb p : Nat} {err err' : Int} {n : Nat} {xs : List Value} {v : Value} (h : RRow e size w rb p err n xs v wr) (hr : Rdr w1 rb p err') (hg : wr.grownBy w1 (some rb)) (hne : tRdr ≠ e) : RRow e size w rb p err' n xs v w1 := by
  obtain ⟨A, c, rfl, h1, h2, h3⟩ := h
  exact ⟨A, c, rfl, h1.kept hg (own_ne_bk h1 h2 hne), hr, grown_tr h3 hg⟩
def atB (t : B) : Bool := match t with | 64 :: _ => true | _ => false
def unAt (t : B) : B := match t with | 64 :: r => r | s => s
theorem at_cases (t : B) : (∃ r, t = 64 :: r ∧ unAt t = r ∧ atB t = true) ∨ (unAt t = t ∧ atB t = false ∧ ∀ r, t ≠ 64 :: r) := by
  unfold unAt atB
  split
  · exact .inl ⟨_, rfl, rfl, rfl⟩
  · rename_i h
    exact .inr ⟨rfl, rfl, h⟩
theorem pre_eq (t : B) : Lib.trimPrefix t [64] = unAt t ∧ Lib.hasPrefix t [64] = atB t := by
  cases t with
  | nil => exact ⟨rfl, rfl⟩
  | cons c r =>
    by_cases hc : c = 64
    · subst hc
      simp [Lib.trimPrefix, Lib.hasPrefix, unAt, atB]
    · rcases at_cases (c :: r) with ⟨r', h, _⟩ | ⟨h1, h2, _⟩
      · injection h with h _
        exact absurd h hc
      · rw [h1, h2]
        have hp : Lib.hasPrefix (c :: r) [64] = false := by
          simp only [Lib.hasPrefix, List.isPrefixOf, Bool.and_eq_false_iff, beq_eq_false_iff_ne, ne_eq]
          exact .inl (fun e => hc e.symm)
        exact ⟨by rw [Lib.trimPrefix, hp]; rfl, hp⟩
theorem cutPre_ok (w : World) (t : B) : Calls Tryz.prog 169 #[.string ⟨t.toArray⟩, .string ⟨#[64]⟩] w fun e w' => e = .returned (.tuple #[.string ⟨(unAt t).toArray⟩, .bool (atB t)]) ∧ w = w' := by
  obtain ⟨e1, e2⟩ := pre_eq t
  refine (Tryz.strings_CutPrefix ⟨t.toArray⟩ ⟨#[64]⟩ w).mono ?_
  rintro e w' ⟨h1, h2⟩
  refine ⟨?_, h2.symm⟩
  rw [h1, ← e1, ← e2]
/-- one word of a set, read on after errors too -/
def setWd (gl : Gl) (cls : List (B × List Int)) (er : Int) (acc : List Int) (t : B) : Int × List Int :=
  if atB t then (match cls.lookup (unAt t) with | some c => (er, acc ++ c) | none => (eC er 23, acc)) else (eGl gl er t, acc ++ [vGl gl t])
def setRun (gl : Gl) (cls : List (B × List Int)) : Int → List Int → List B → Int × List Int
  | er, acc, [] => (er, acc)
  | er, acc, t :: r => if (setWd gl cls er acc t).1 ≠ 0 then setWd gl cls er acc t else if 1000 < (setWd gl cls er acc t).2.length then (eC (setWd gl cls er acc t).1 2, (setWd gl cls er acc t).2) else setRun gl cls (setWd gl cls er acc t).1 (setWd gl cls er acc t).2 r
theorem run_bad {gl : Gl} {cls : List (B × List Int)} {er er1 : Int} {acc acc1 : List Int} {t : B} {r : List B} (h : setWd gl cls er acc t = (er1, acc1)) (h1 : er1 ≠ 0) : setRun gl cls er acc (t :: r) = (er1, acc1) := by
  rw [setRun, h, if_pos h1]
theorem run_many {gl : Gl} {cls : List (B × List Int)} {er : Int} {acc acc1 : List Int} {t : B} {r : List B} (h : setWd gl cls er acc t = (0, acc1)) (h1 : 1000 < acc1.length) : setRun gl cls er acc (t :: r) = (2, acc1) := by
  rw [setRun, h, if_neg (by simp), if_pos h1]
  rfl
theorem run_on {gl : Gl} {cls : List (B × List Int)} {er : Int} {acc acc1 : List Int} {t : B} {r : List B} (h : setWd gl cls er acc t = (0, acc1)) (h1 : acc1.length ≤ 1000) : setRun gl cls er acc (t :: r) = setRun gl cls 0 acc1 r := by
  rw [setRun, h, if_neg (by simp), if_neg (by simp only; omega)]
/-- where the names of the glyphs lie, and the classes -/
def Dt (w : World) : Bs := fun b => ∃ cs t, Bk w b t cs ∧ dataT t = true
structure PAt (w : World) (p gm cm : Nat) (gl : Gl) (cls : List (B × List Int)) : Prop where
  par : ∃ cs, Bk w p tPar cs ∧ cs[10]? = some (.map (some gm)) ∧ cs[11]? = some (.map (some cm))
  gmp : MapF embB w gm (fun t => (gl.lookup t).map fun n => .int .i64 (n : Nat))
  cl : ClsD w (Dt w) cm cls
theorem PSt.at {w : World} {Bd p gm cm : Nat} {gl : Gl} {s : PS} {rv : Rows} {K : Nat} (h : PSt w Bd p gm cm gl s rv K) : PAt w p gm cm gl s.cls := by
  refine ⟨⟨_, h.par, rfl, rfl⟩, h.gmp, ?_⟩
  obtain ⟨f, h1, h2⟩ := h.cls
  refine ⟨f, h1, fun t => (h2 t).imp id fun ⟨l, A, c, e1, e2, e3, e4⟩ => ⟨l, A, c, e1, e2, e3.mono IntR.ok fun b ⟨cs, t, g1, g2, _⟩ => ⟨cs, t, g1, g2⟩, e4⟩⟩
theorem PAt.gm {w : World} {p gm cm : Nat} {gl : Gl} {cls : List (B × List Int)} (h : PAt w p gm cm gl cls) : GmAt w p gm gl := by
  obtain ⟨cs, h1, h2, h3⟩ := h.par
  exact ⟨(h1.cell 10).trans h2, h.gmp⟩
/-- blocks of no type of the font's are written: what stands, stands -/
theorem PAt.keep {w w' : World} {p gm cm : Nat} {gl : Gl} {cls : List (B × List Int)} (h : PAt w p gm cm gl cls) (hk : ∀ (b : Nat) t cs, Bk w b t cs → dataT t = true ∨ t = tPar → w'.heap[b]? = w.heap[b]?) (hm : ∀ (b : Nat) es c, w.heap[b]? = some (Obj.map es c) → w'.heap[b]? = w.heap[b]?) : PAt w' p gm cm gl cls := by
  obtain ⟨cs, h1, h2, h3⟩ := h.par
  obtain ⟨f, g1, g2⟩ := h.cl
  obtain ⟨e1, c1, m1⟩ := h.gmp.isMap
  obtain ⟨e2, c2, m2⟩ := g1.isMap
  refine ⟨⟨cs, h1.keep (hk _ _ _ h1 (.inr rfl)), h2, h3⟩, h.gmp.keep (hm _ _ _ m1), ⟨f, g1.keep (hm _ _ _ m2), fun t => (g2 t).imp id fun ⟨l, A, c, e1, e2, e3, e4⟩ => ⟨l, A, c, e1, e2, ?_, e4⟩⟩⟩
  have hs : Same (Dt w) w w' := fun b ⟨cs, t, g1, g2⟩ => hk b t cs g1 (.inl g2)
  exact (e3.keep IntR.ok hs).mono IntR.ok fun b ⟨cs, t, g1, g2⟩ => ⟨cs, t, g1.keep (hk b t cs g1 (.inl g2)), g2⟩
theorem PAt.grown {w w' : World} {p gm cm rb : Nat} {err : Int} {gl : Gl} {cls : List (B × List Int)} (h : PAt w p gm cm gl cls) (hr : Rdr w rb p err) (hg : w.grownBy w' (some rb)) : PAt w' p gm cm gl cls := by
  refine h.keep (fun b t cs hb ht => hg.block b hb.lt fun e => ?_) (fun b es c hb => hg.block b (Array.getElem?_eq_some_iff.1 hb).1 fun e => ?_)
  · injection e with e
    subst e
    have := (bk_one hb hr).1
    subst this
    rcases ht with ht | ht
    · revert ht; decide
    · revert ht; decide
  · injection e with e
    subst e
    unfold Rdr Bk at hr
    rw [hb] at hr
    cases hr
theorem sl_rd {w : World} {S : Bs} {A : Option Addr} {l : List Int} (h : Sl IntR 1 w S A l) {Bd : Nat} (hS : ∀ b, S b → b < Bd) : Rd w Bd A l.length 1 (cIs l) := by
  refine ⟨by simp [cIs], fun h0 => ?_⟩
  obtain ⟨cells, hf, hc⟩ := h
  obtain ⟨b, o, e, hb, hk⟩ := hc h0
  refine ⟨b, o, e, hS b hb, fun j u hu => ?_⟩
  refine hk j u ?_
  simp only [cIs, List.getElem?_map, Option.map_eq_some_iff] at hu
  obtain ⟨x, hx, rfl⟩ := hu
  obtain ⟨cs, hr, hl, hcs⟩ := hf.2 j x hx
  obtain ⟨rfl, -⟩ := hr
  have := hcs 0 _ rfl
  show cells[j]? = some (.int .i64 x)
  simpa using this
theorem cIs_app (a b : List Int) : cIs (a ++ b) = cIs a ++ cIs b := by simp [cIs]
theorem cIs_one (a : Int) : cIs [a] = [.int .i64 a] := rfl
theorem cIs_oneCell (l : List Int) : ∀ u ∈ cIs l, u.oneCell' = true := oneI l
def SetPost (w : World) (rb p : Nat) (res : Int × List Int) (e : Ending) (w' : World) : Prop := RetR 3 1 w rb p res.1 res.2.length (cIs res.2) e w'
theorem drop_cons' {ws : List P3} {k : Nat} {x y : Int} {z : B} (h : ws[k]? = some (x, y, z)) : (txts ws).drop k = z :: (txts ws).drop (k + 1) := by
  obtain ⟨hk, hg⟩ := List.getElem?_eq_some_iff.1 h
  rw [List.drop_eq_getElem_cons (by rw [txts_len]; exact hk)]
  congr 1
  simp [txts, hg]
theorem zeroRow (w : World) : (zeroValue 22).run Tryz.prog w = .ok (.slice none 0 0) w := by kernel_rfl
set_option maxRecDepth 100000 in
set_option maxHeartbeats 8000000 in
theorem set_ok (w : World) (rb p gm cm : Nat) (gl : Gl) (cls : List (B × List Int)) (err : Int) (A : Option Addr) (n c : Nat) (ws : List P3) (hR : Rdr w rb p err) (hP : PAt w p gm cm gl cls) (hw : RdT w 124 A n 3 (c3s ws)) (hn : n ≤ 1000000000) :
    Calls Tryz.prog 128 #[.pointer (some ⟨rb, 0, none⟩), .slice A n c] w (SetPost w rb p (setRun gl cls err [] (txts ws))) := by
  have hwl := Lib.hid hw.rd.len3
  have HR := Lib.hid hR
  have HW := Lib.hid hw
  have HP := Lib.hid hP
  clear hR hw hP
  go_enter Tryz.func128, Tryz.ntmps128
  go_wp2
  go_step3
  go_wp2
  go_step3
  go_wp2
  go_loopw [5, 14] (fun v i wr => ∃ k : Nat, k ≤ n ∧ i = .int .i64 k ∧ ∃ er acc, Hid (setRun gl cls err [] (txts ws) = setRun gl cls er acc ((txts ws).drop k)) ∧ List.length acc ≤ 1000 ∧ RRow 3 1 w rb p er acc.length (cIs acc) v wr) (fun _ i _ => n - (intOf i).toNat)
  case atStart => exact ⟨0, Nat.zero_le _, rfl, err, [], rfl, by simp, RRow.start HR.out (World.grownBy.refl _ _)⟩
  case round =>
    obtain ⟨k, hk, rfl, er, acc, hrun, hacc, A4, c4, rfl, ho, hr, hg⟩ := hrel
    by_cases hlt : k < n
    · obtain ⟨b, o, x, y, z, rfl, hp, q1, q2, q3⟩ := word_at HW.out HR.out hg hlt
      have hrun2 := hrun.out
      rw [drop_cons' hp.out] at hrun2
      have hP1 := (HP.out.grown HR.out hg).keep (w' := wr.alloc (.cells #[.int .i64 x, .int .i64 y, .string ⟨z.toArray⟩] 124)) (fun b t cs hb _ => Below.heap_alloc _ _ _ hb.lt) (fun b es c hb => Below.heap_alloc _ _ _ (Array.getElem?_eq_some_iff.1 hb).1)
      have hr0 := Lib.hid hr
      have hg0 : wr.grownBy (wr.alloc (.cells #[.int .i64 x, .int .i64 y, .string ⟨z.toArray⟩] 124)) (some rb) := World.grownBy_alloc _ _ _
      have HG0 := Lib.hid hg0
      have HG := Lib.hid hg
      have hsz := hg.size
      have hrb : rb < wr.heap.size := hr.lt
      have hpc := Lib.hid (fun w => cutPre_ok w z)
      have k0 : wr.cell? ⟨rb, 0, none⟩ = some (.pointer (some ⟨p, 0, none⟩)) := hr.cell 0
      have k1 : wr.cell? ⟨rb, 1, none⟩ = some (.int .i64 er) := hr.cell 1
      have k11 : wr.cell? ⟨p, 11, none⟩ = some (.map (some cm)) := by
        obtain ⟨cs, g1, g2, g3⟩ := (HP.out.grown HR.out hg).par
        exact (g1.cell 11).trans g3
      have hpb : p < wr.heap.size := World.block_lt_of_cell? wr ⟨p, 11, none⟩ k11
      obtain ⟨f, hf1, hf2⟩ := hP1.cl
      have hlk := hf1.look2 Tryz.underlying114 Tryz.underlying9 (zeroRow _) (unAt z)
      change (Instr.lookup 114 (.map (some cm)) (.string ⟨(unAt z).toArray⟩) true).run Tryz.prog (wr.alloc (.cells #[.int .i64 x, .int .i64 y, .string ⟨z.toArray⟩] 124)) = _ at hlk
      have hgly := Lib.hid (fun h => glyph_ok (wr.alloc (.cells #[.int .i64 x, .int .i64 y, .string ⟨z.toArray⟩] 124)) rb p gm gl er z h hP1.gm)
      have hwd : setWd gl cls er acc z = if atB z then (match cls.lookup (unAt z) with | some c => (er, acc ++ c) | none => (eC er 23, acc)) else (eGl gl er z, acc ++ [vGl gl z]) := rfl
      cases hat : atB z with
      | false =>
        rw [hat] at hwd
        have hwd : setWd gl cls er acc z = (eGl gl er z, acc ++ [vGl gl z]) := hwd
        have Hat := Lib.hid hat
        obtain ⟨vc, ok, hlk2⟩ : ∃ vc ok, (Instr.lookup 114 (.map (some cm)) (.string ⟨(unAt z).toArray⟩) true).run Tryz.prog (wr.alloc (.cells #[.int .i64 x, .int .i64 y, .string ⟨z.toArray⟩] 124)) = .ok (.tuple #[vc, .bool ok]) (wr.alloc (.cells #[.int .i64 x, .int .i64 y, .string ⟨z.toArray⟩] 124)) := ⟨_, _, hlk⟩
        have hcs : Hid (cIs (acc ++ [vGl gl z]) = cIs acc ++ [.int .i64 (vGl gl z)]) := cIs_app _ _
        have hll : Hid ((acc ++ [vGl gl z]).length = acc.length + 1) := by show _ = _; simp
        generalize eGl gl er z = er1 at *
        generalize vGl gl z = vz at *
        have hxl : ∀ A5 c5 w2 er9, (RRow 3 1 w rb p er9 (acc ++ [vz]).length (cIs (acc ++ [vz])) (.slice A5 (acc.length + 1) c5) w2) = (RRow 3 1 w rb p er9 (acc.length + 1) (cIs acc ++ [.int .i64 vz]) (.slice A5 (acc.length + 1) c5) w2) := fun A5 c5 w2 er9 => by rw [hll.out, hcs.out]
        have HX := Lib.hid hxl
        clear hlk hf2 hf1 hat hxl
        by_cases he : er1 = 0
        · by_cases hm : 1000 < acc.length + 1
          · skip
            subst he
            have hres := Lib.hid (hrun2.trans (run_many hwd (by rw [hll.out]; exact hm)))
            have e3 : ((1000 : Int) < (acc.length : Int) + 1) := by omega
            clear hrun2 hwd hP1 hp hrun hr hg hg0
            go_wp2_with (first
              | (go_at_call 169; refine (hpc.out _).mono ?_; rintro e w0 ⟨rfl, rfl⟩; rw [Hat.out])
              | (go_at_call 132; refine (hgly.out (by exact hr0.out.alloc _)).mono ?_; rintro e w1 ⟨rfl, hr1, hg1⟩; have hg2 := grown_tr HG0.out hg1; have z1 := hg2.size)
              | (at_builtin; refine push_l elInt rfl (.tmp 41) (.tmp 46) rfl w1 _ rfl w.heap.size acc.length c4 A4 (cIs acc) #[.int .i64 vz] rfl rfl rfl (ho.kept hg2 (own_ne_bk ho hr0.out (by decide))) (by simp [Value.oneCell']) (by omega) (by omega) ?_; intro A5 c5 w2 ho2 hg3 _; have hRR := RRow.next ho hr0.out HG.out hr1 hg2 ho2 hg3 (by decide); have hRd : Rdr w2 rb p _ := hRR.rdr; have hgw := hRR.grown; have k3 := Bk.cell hRd 1; simp only [List.getElem?_toArray, List.getElem?_cons_succ, List.getElem?_cons_zero] at k3; have HRR := Lib.hid hRR; have HRd := Lib.hid hRd; clear hRR hRd)
              | (go_at_call 164; refine (fail_ok w2 rb p 0 2 HRd.out).mono ?_; rintro e w3 ⟨rfl, hr3, hg4⟩))
            try rw [Exit.noGoto_ret]
            go_ret
            unfold SetPost
            rw [hres.out]
            refine ⟨.slice A5 (acc.length + 1) c5, rfl, ?_⟩
            show RRow _ _ _ _ _ _ (acc ++ [vz]).length (cIs (acc ++ [vz])) _ _
            rw [HX.out]
            exact HRR.out.after hr3 hg4 (by decide)
          · skip
            subst he
            have hres := Lib.hid (hrun2.trans (run_on hwd (by rw [hll.out]; omega)))
            have e3 : ¬ ((1000 : Int) < (acc.length : Int) + 1) := by omega
            clear hrun2 hwd hP1 hp hrun hr hg hg0
            go_wp2_with (first
              | (go_at_call 169; refine (hpc.out _).mono ?_; rintro e w0 ⟨rfl, rfl⟩; rw [Hat.out])
              | (go_at_call 132; refine (hgly.out (by exact hr0.out.alloc _)).mono ?_; rintro e w1 ⟨rfl, hr1, hg1⟩; have hg2 := grown_tr HG0.out hg1; have z1 := hg2.size)
              | (at_builtin; refine push_l elInt rfl (.tmp 41) (.tmp 46) rfl w1 _ rfl w.heap.size acc.length c4 A4 (cIs acc) #[.int .i64 vz] rfl rfl rfl (ho.kept hg2 (own_ne_bk ho hr0.out (by decide))) (by simp [Value.oneCell']) (by omega) (by omega) ?_; intro A5 c5 w2 ho2 hg3 _; have hRR := RRow.next ho hr0.out HG.out hr1 hg2 ho2 hg3 (by decide); have hRd : Rdr w2 rb p _ := hRR.rdr; have hgw := hRR.grown; have k3 := Bk.cell hRd 1; simp only [List.getElem?_toArray, List.getElem?_cons_succ, List.getElem?_cons_zero] at k3; have HRR := Lib.hid hRR; have HRd := Lib.hid hRd; clear hRR hRd))
            go_roundw
            case rel => exact ⟨k + 1, by omega, by simp, 0, acc ++ [vz], hres, by rw [hll.out]; omega, by rw [HX.out]; exact HRR.out⟩
            case measure => simp [intOf]; omega
        · skip
          have hres := Lib.hid (hrun2.trans (run_bad hwd he))
          have e1 : (er1 == 0) = false := by simpa using he
          have e2 : (er1 != 0) = true := by simpa using he
          clear hrun2 hwd he hP1 hp hrun hr hg hg0
          go_wp2_with (first
            | (go_at_call 169; refine (hpc.out _).mono ?_; rintro e w0 ⟨rfl, rfl⟩; rw [Hat.out])
            | (go_at_call 132; refine (hgly.out (by exact hr0.out.alloc _)).mono ?_; rintro e w1 ⟨rfl, hr1, hg1⟩; have hg2 := grown_tr HG0.out hg1; have z1 := hg2.size)
            | (at_builtin; refine push_l elInt rfl (.tmp 41) (.tmp 46) rfl w1 _ rfl w.heap.size acc.length c4 A4 (cIs acc) #[.int .i64 vz] rfl rfl rfl (ho.kept hg2 (own_ne_bk ho hr0.out (by decide))) (by simp [Value.oneCell']) (by omega) (by omega) ?_; intro A5 c5 w2 ho2 hg3 _; have hRR := RRow.next ho hr0.out HG.out hr1 hg2 ho2 hg3 (by decide); have hRd : Rdr w2 rb p _ := hRR.rdr; have hgw := hRR.grown; have k3 := Bk.cell hRd 1; simp only [List.getElem?_toArray, List.getElem?_cons_succ, List.getElem?_cons_zero] at k3; have HRR := Lib.hid hRR; have HRd := Lib.hid hRd; clear hRR hRd))
          try rw [Exit.noGoto_ret]
          go_ret
          unfold SetPost
          rw [hres.out]
          refine ⟨.slice A5 (acc.length + 1) c5, rfl, ?_⟩
          show RRow _ _ _ _ _ _ (acc ++ [vz]).length (cIs (acc ++ [vz])) _ _
          rw [HX.out]
          exact HRR.out
      | true =>
        rw [hat] at hwd
        have hwd : setWd gl cls er acc z = (match cls.lookup (unAt z) with | some c => (er, acc ++ c) | none => (eC er 23, acc)) := hwd
        have Hat := Lib.hid hat
        rcases hf2 (unAt z) with ⟨g1, g2⟩ | ⟨l, A9, c9, g1, g2, g3, g4⟩
        · rw [g1] at hwd
          have hwd : setWd gl cls er acc z = (eC er 23, acc) := hwd
          rw [g2] at hlk
          have hlk : (Instr.lookup 114 (.map (some cm)) (.string ⟨(unAt z).toArray⟩) true).run Tryz.prog (wr.alloc (.cells #[.int .i64 x, .int .i64 y, .string ⟨z.toArray⟩] 124)) = .ok (.tuple #[.slice none 0 0, .bool false]) _ := hlk
          have he : eC er 23 ≠ 0 := by unfold eC; split <;> omega
          have hres := Lib.hid (hrun2.trans (run_bad hwd he))
          have hfl := Lib.hid (fun h => fail_ok (wr.alloc (.cells #[.int .i64 x, .int .i64 y, .string ⟨z.toArray⟩] 124)) rb p er 23 h)
          generalize eC er 23 = er1 at *
          have e1 : (er1 == 0) = false := by simpa using he
          have e2 : (er1 != 0) = true := by simpa using he
          clear hrun2 hwd he hP1 hp hrun hr hg hg0 g1 g2 hat hf1
          go_wp2_with (first
            | (go_at_call 169; refine (hpc.out _).mono ?_; rintro e w0 ⟨rfl, rfl⟩; rw [Hat.out])
            | (go_at_call 164; refine (hfl.out (by exact hr0.out.alloc _)).mono ?_; rintro e w2 ⟨rfl, hr1, hg1⟩; have hg2 := grown_tr HG0.out hg1; have k3 := Bk.cell hr1 1; simp only [List.getElem?_toArray, List.getElem?_cons_succ, List.getElem?_cons_zero] at k3; have Hr1 := Lib.hid hr1; have Hg2 := Lib.hid hg2; clear hr1 hg2 hg1))
          try rw [Exit.noGoto_ret]
          go_ret
          unfold SetPost
          rw [hres.out]
          exact ⟨_, rfl, A4, c4, rfl, ho.kept Hg2.out (own_ne_bk ho hr0.out (by decide)), Hr1.out, grown_tr HG.out Hg2.out⟩
        · rw [g1] at hwd
          have hwd : setWd gl cls er acc z = (er, acc ++ l) := hwd
          rw [g2] at hlk
          have hlk : (Instr.lookup 114 (.map (some cm)) (.string ⟨(unAt z).toArray⟩) true).run Tryz.prog (wr.alloc (.cells #[.int .i64 x, .int .i64 y, .string ⟨z.toArray⟩] 124)) = .ok (.tuple #[.slice A9 l.length c9, .bool true]) _ := hlk
          have hrd := sl_rd g3 (Bd := (wr.alloc (.cells #[.int .i64 x, .int .i64 y, .string ⟨z.toArray⟩] 124)).heap.size) (fun b ⟨cs, t, hb, _⟩ => hb.lt)
          have hcs : Hid (cIs (acc ++ l) = cIs acc ++ cIs l) := cIs_app _ _
          have hll : Hid ((acc ++ l).length = acc.length + l.length) := by show _ = _; simp
          have hxl : ∀ A5 c5 w2 er9, (RRow 3 1 w rb p er9 (acc ++ l).length (cIs (acc ++ l)) (.slice A5 (acc.length + l.length) c5) w2) = (RRow 3 1 w rb p er9 (acc.length + l.length) (cIs acc ++ cIs l) (.slice A5 (acc.length + l.length) c5) w2) := fun A5 c5 w2 er9 => by rw [hll.out, hcs.out]
          have HX := Lib.hid hxl
          have HRD := Lib.hid hrd
          clear g1 g2 g3 hat hf1 hxl hrd
          by_cases he : er = 0
          · by_cases hm : 1000 < acc.length + l.length
            · skip
              subst he
              have hres := Lib.hid (hrun2.trans (run_many hwd (by rw [hll.out]; exact hm)))
              have e3 : ((1000 : Int) < (acc.length : Int) + (l.length : Int)) := by omega
              clear hrun2 hwd hP1 hp hrun hr hg hg0
              go_wp2_with (first
                | (go_at_call 169; refine (hpc.out _).mono ?_; rintro e w0 ⟨rfl, rfl⟩; rw [Hat.out])
                | (at_builtin; refine app_l elInt rfl (.tmp 50) (.tmp 51) rfl (wr.alloc (.cells #[.int .i64 x, .int .i64 y, .string ⟨z.toArray⟩] 124)) w.heap.size acc.length c4 A4 (cIs acc) _ A9 l.length c9 (cIs l) rfl rfl (ho.alloc _) HRD.out (cIs_oneCell l) (by omega) (by simp; omega) ?_; intro A5 c5 w2 ho2 hg3 _; have hRR := RRow.next ho hr0.out HG.out (hr0.out.alloc _) HG0.out ho2 hg3 (by decide); have hRd : Rdr w2 rb p _ := hRR.rdr; have k3 := Bk.cell hRd 1; simp only [List.getElem?_toArray, List.getElem?_cons_succ, List.getElem?_cons_zero] at k3; have HRR := Lib.hid hRR; have HRd := Lib.hid hRd; clear hRR hRd)
                | (go_at_call 164; refine (fail_ok w2 rb p 0 2 HRd.out).mono ?_; rintro e w3 ⟨rfl, hr3, hg4⟩))
              try rw [Exit.noGoto_ret]
              go_ret
              unfold SetPost
              rw [hres.out]
              refine ⟨.slice A5 (acc.length + l.length) c5, rfl, ?_⟩
              show RRow _ _ _ _ _ _ (acc ++ l).length (cIs (acc ++ l)) _ _
              rw [HX.out]
              exact HRR.out.after hr3 hg4 (by decide)
            · skip
              subst he
              have hres := Lib.hid (hrun2.trans (run_on hwd (by rw [hll.out]; omega)))
              have e3 : ¬ ((1000 : Int) < (acc.length : Int) + (l.length : Int)) := by omega
              clear hrun2 hwd hP1 hp hrun hr hg hg0
              go_wp2_with (first
                | (go_at_call 169; refine (hpc.out _).mono ?_; rintro e w0 ⟨rfl, rfl⟩; rw [Hat.out])
                | (at_builtin; refine app_l elInt rfl (.tmp 50) (.tmp 51) rfl (wr.alloc (.cells #[.int .i64 x, .int .i64 y, .string ⟨z.toArray⟩] 124)) w.heap.size acc.length c4 A4 (cIs acc) _ A9 l.length c9 (cIs l) rfl rfl (ho.alloc _) HRD.out (cIs_oneCell l) (by omega) (by simp; omega) ?_; intro A5 c5 w2 ho2 hg3 _; have hRR := RRow.next ho hr0.out HG.out (hr0.out.alloc _) HG0.out ho2 hg3 (by decide); have hRd : Rdr w2 rb p _ := hRR.rdr; have k3 := Bk.cell hRd 1; simp only [List.getElem?_toArray, List.getElem?_cons_succ, List.getElem?_cons_zero] at k3; have HRR := Lib.hid hRR; have HRd := Lib.hid hRd; clear hRR hRd))
              go_roundw
              case rel => exact ⟨k + 1, by omega, by simp, 0, acc ++ l, hres, by rw [hll.out]; omega, by rw [HX.out]; exact HRR.out⟩
              case measure => simp [intOf]; omega
          · skip
            have hres := Lib.hid (hrun2.trans (run_bad hwd he))
            have e1 : (er == 0) = false := by simpa using he
            have e2 : (er != 0) = true := by simpa using he
            clear hrun2 hwd he hP1 hp hrun hr hg hg0
            go_wp2_with (first
              | (go_at_call 169; refine (hpc.out _).mono ?_; rintro e w0 ⟨rfl, rfl⟩; rw [Hat.out])
              | (at_builtin; refine app_l elInt rfl (.tmp 50) (.tmp 51) rfl (wr.alloc (.cells #[.int .i64 x, .int .i64 y, .string ⟨z.toArray⟩] 124)) w.heap.size acc.length c4 A4 (cIs acc) _ A9 l.length c9 (cIs l) rfl rfl (ho.alloc _) HRD.out (cIs_oneCell l) (by omega) (by simp; omega) ?_; intro A5 c5 w2 ho2 hg3 _; have hRR := RRow.next ho hr0.out HG.out (hr0.out.alloc _) HG0.out ho2 hg3 (by decide); have hRd : Rdr w2 rb p _ := hRR.rdr; have k3 := Bk.cell hRd 1; simp only [List.getElem?_toArray, List.getElem?_cons_succ, List.getElem?_cons_zero] at k3; have HRR := Lib.hid hRR; have HRd := Lib.hid hRd; clear hRR hRd))
            try rw [Exit.noGoto_ret]
            go_ret
            unfold SetPost
            rw [hres.out]
            refine ⟨.slice A5 (acc.length + l.length) c5, rfl, ?_⟩
            show RRow _ _ _ _ _ _ (acc ++ l).length (cIs (acc ++ l)) _ _
            rw [HX.out]
            exact HRR.out
    · obtain rfl : k = n := by omega
      have hend : setRun gl cls err [] (txts ws) = (er, acc) := by
        rw [hrun.out, List.drop_eq_nil_of_le (by rw [txts_len, hwl.out]; exact Nat.le_refl _)]
        rfl
      have Hend := Lib.hid hend
      clear hend
      go_wp2
      try rw [Exit.noGoto_ret]
      go_ret
      unfold SetPost
      rw [Hend.out]
      exact ⟨_, rfl, A4, c4, rfl, ho, hr, hg⟩
end Go.Proofs.YtkijckccfookeaaGreatDoor
