/- parse: unit, axis. -/
import Derived.Test.YtkijckccfookeaaGreatDoorK16
import Derived.BigRegion
namespace Go.Proofs.YtkijckccfookeaaGreatDoor
open Go.RowKit
attribute [-go_sem] Builtin.append_

/-- a line: its words lie in memory, and are not too long -/
structure LnAt (w : World) (A : Option Addr) (n : Nat) (ws : List P3) : Prop where
  rd : RdT w 124 A n 3 (c3s ws)
  len : ∀ x ∈ ws, x.2.2.length ≤ 1000000
  few : n ≤ 1000000000
theorem LnAt.length {w : World} {A : Option Addr} {n : Nat} {ws : List P3} (h : LnAt w A n ws) : ws.length = n := h.rd.rd.len3
/-- the text of a word -/
theorem LnAt.word {w : World} {A : Option Addr} {n : Nat} {ws : List P3} (h : LnAt w A n ws) {k : Nat} {t : B} (hk : (txts ws)[k]? = some t) {d : Nat} (hd : d = k * 3) :
    ∃ b o, A = some ⟨b, o, none⟩ ∧ b < w.heap.size ∧ w.cell? ⟨b, o + d + 2, none⟩ = some (.string ⟨t.toArray⟩) ∧ t.length ≤ 1000000 := by
  have hk2 := (List.getElem?_eq_some_iff.1 hk).1
  rw [txts_len, h.length] at hk2
  obtain ⟨b, o, x, y, z, e, hb, hp, q1, q2, q3⟩ := h.rd.rd.at3 hk2
  have hz : z = t := by
    have := hp.out
    simp only [txts, List.getElem?_map, this, Option.map_some, Option.some.injEq] at hk
    exact hk
  subst hz
  subst hd
  exact ⟨b, o, e, hb, q3, h.len _ (c3s_word hp.out)⟩
theorem numV_n9 (t : B) : N9 (numV t) := by
  unfold numV N9
  split
  · rename_i h
    have h2 := h
    rw [numD, Bool.and_eq_true, List.all_eq_true] at h2
    have h3 := valB_lt (unsign t) (fun c hc => h2.1 c hc)
    have h4 : (unsign t).length ≤ 9 := by
      have := h2.2
      simp at this
      exact this.2
    have h5 : 10 ^ (unsign t).length ≤ 10 ^ 9 := Nat.pow_le_pow_right (by omega) h4
    have h6 : (10 : Nat) ^ 9 = 1000000000 := rfl
    split <;> omega
  · omega
theorem N9.i64 {n : Int} (h : N9 n) : I64 n := ⟨by have := h.1; omega, by have := h.2; omega⟩
theorem numV_i64 (t : B) : I64 (numV t) := (numV_n9 t).i64
theorem below_rdr {w a b : World} {rb : Nat} (h : Below w.heap.size w a) (hg : a.grownBy b (some rb)) (hr : w.heap.size ≤ rb) : Below w.heap.size w b := h.grown hg h.size (fun k e => by cases e; exact hr)
theorem txts_cons {ws : List P3} {t : B} {l : List B} (h : txts ws = t :: l) : ws.length = l.length + 1 := by
  have := congrArg List.length h
  simpa [txts] using this
theorem rUnit_no (s : PS) (l : List B) (h : l.length ≠ 1) : rUnit s l = .error 22 := by
  unfold rUnit
  split
  · simp at h
  · rfl
set_option maxRecDepth 100000 in
set_option maxHeartbeats 2000000 in
theorem readUnit_ok (w : World) (Bd p gm cm : Nat) (gl : Gl) (s : PS) (rv : Rows) (K : Nat) (A : Option Addr) (n c : Nat) (ws : List P3) (t : B) (l : List B) (hP : PSt w Bd p gm cm gl s rv K) (hL : LnAt w A n ws) (hT : txts ws = t :: l) :
    Calls Tryz.prog 73 #[.pointer (some ⟨p, 0, none⟩), .slice A n c] w (StPost w Bd p gm cm gl (K + n) (rUnit s l)) := by
  have hn : n = l.length + 1 := by rw [← hL.length]; exact txts_cons hT
  have hB := hP.size
  by_cases h1 : l.length = 1
  · obtain ⟨t1, rfl⟩ : ∃ t1, l = [t1] := by
      match l, h1 with
      | [a], _ => exact ⟨a, rfl⟩
    obtain ⟨b, o, rfl, hb, q1, hz⟩ := hL.word (k := 1) (t := t1) (by rw [hT]; rfl) (d := 3) rfl
    simp only [List.length_cons, List.length_nil] at hn
    subst hn
    have HP := Lib.hid hP
    have hpb : p < w.heap.size := hP.par.lt
    have k9 : w.cell? ⟨p, 9, none⟩ = some (.bool s.unit) := hP.par.cell 9
    have k0 : w.cell? ⟨p, 0, none⟩ = some (.int .i64 s.f.unit) := hP.par.cell 0
    have f9 := hP.par.frozen 9
    have f0 := hP.par.frozen 0
    have hu : Hid (rUnit s [t1] = if eNum 0 t1 ≠ 0 then .error (eNum 0 t1) else if s.unit then .error 24 else .ok { s with unit := true, f := { s.f with unit := numV t1 } }) := rfl
    have hn1 := Lib.hid (fun w rb h => number_ok w rb p 0 t1 h hz)
    have HNV := Lib.hid (numV_i64 t1)
    clear hP hL hT h1 hz
    generalize numV t1 = nv at *
    generalize eNum 0 t1 = er at *
    by_cases he : er = 0
    · subst he
      cases hsu : s.unit with
      | true =>
        rw [hsu] at k9
        have HR : Hid (rUnit s [t1] = .error 24) := by show _ = _; rw [hu.out, hsu]; rfl
        clear hu hsu
        go_enter Tryz.func73, Tryz.ntmps73
        go_wp2_with (first
          | (go_at_call 121; refine (read_ok w p).mono ?_; rintro e w1 ⟨rfl, hr1, hb1⟩; obtain ⟨hc1, hf1⟩ := bcell hb1)
          | (go_at_call 122; refine (hn1.out w1 _ hr1).mono ?_; rintro e w2 ⟨rfl, hr2, hg2⟩; have hb2 := below_rdr hb1 hg2 (Nat.le_refl _); obtain ⟨hc2, hf2⟩ := bcell hb2; have k1 := Bk.cell hr2 1; simp only [List.getElem?_toArray, List.getElem?_cons_succ, List.getElem?_cons_zero] at k1))
        go_ret
        exact StPost.bad HR.out (hb2.mono hB)
      | false =>
        rw [hsu] at k9
        have HR : Hid (rUnit s [t1] = .ok { s with unit := true, f := { s.f with unit := nv } }) := by show _ = _; rw [hu.out, hsu]; rfl
        clear hu hsu
        go_enter Tryz.func73, Tryz.ntmps73
        go_wp2_with (first
          | (go_at_call 121; refine (read_ok w p).mono ?_; rintro e w1 ⟨rfl, hr1, hb1⟩; obtain ⟨hc1, hf1⟩ := bcell hb1)
          | (go_at_call 122; refine (hn1.out w1 _ hr1).mono ?_; rintro e w2 ⟨rfl, hr2, hg2⟩; have hb2 := below_rdr hb1 hg2 (Nat.le_refl _); obtain ⟨hc2, hf2⟩ := bcell hb2; have k1 := Bk.cell hr2 1; simp only [List.getElem?_toArray, List.getElem?_cons_succ, List.getElem?_cons_zero] at k1))
        go_ret
        have hP2 := HP.out.below hb2
        refine StPost.good HR.out (((hb2.mono hB).setCell hP2.low.1 _).setCell hP2.low.1 _) ?_ (rv' := rv) ?_
        · exact ((KQ.below hb2).trans (KQ.par hP2.par 9 _)).trans (KQ.par (hP2.par.set 9 _) 0 _)
        · have hx := PSt.parW (s' := { s with unit := true }) (K := K + (0 + 1 + 1)) hP2.par hP2.live hP2.fnt hP2.gmp hP2.glI hP2.cls (fun j hj => Nat.le_trans (hP2.few j hj) (by omega)) hP2.low 9 (.bool true) rfl
          exact PSt.parW (s' := { s with unit := true, f := { s.f with unit := nv } }) hx.par hx.live { hx.fnt with unit := HNV.out } hx.gmp hx.glI hx.cls hx.few hx.low 0 (.int .i64 nv) rfl
    · have HR : Hid (rUnit s [t1] = .error er) := by show _ = _; rw [hu.out, if_pos he]
      have e1 : (er == 0) = false := by simpa using he
      have e2 : (er != 0) = true := by simpa using he
      clear hu he
      go_enter Tryz.func73, Tryz.ntmps73
      go_wp2_with (first
        | (go_at_call 121; refine (read_ok w p).mono ?_; rintro e w1 ⟨rfl, hr1, hb1⟩; obtain ⟨hc1, hf1⟩ := bcell hb1)
        | (go_at_call 122; refine (hn1.out w1 _ hr1).mono ?_; rintro e w2 ⟨rfl, hr2, hg2⟩; have hb2 := below_rdr hb1 hg2 (Nat.le_refl _); have k1 := Bk.cell hr2 1; simp only [List.getElem?_toArray, List.getElem?_cons_succ, List.getElem?_cons_zero] at k1))
      go_ret
      exact StPost.bad HR.out (hb2.mono hB)
  · have HR := Lib.hid (rUnit_no s l h1)
    have e1 : ((n : Int) == 2) = false := by simp; omega
    have e2 : ((n : Int) != 2) = true := by simp; omega
    clear hP hL hT h1 hn
    go_enter Tryz.func73, Tryz.ntmps73
    go_wp2
    go_ret
    exact StPost.bad HR.out (Below.refl _ _)
end Go.Proofs.YtkijckccfookeaaGreatDoor
/- A slice's end, 'l[k:]': rows of words, of numbers. -/
namespace Go.Proofs.YtkijckccfookeaaGreatDoor
open Go.RowKit

/-- one element that has just been laid -/
theorem run_push0 {e t size : Nat} (E : ElT e t size) (ty : TypeId) (w1 : World) (base n c : Nat) (A : Option Addr) (xs : List Value) (news : Array Value) (hnl : news.size = size) (hown : w1.ownsRow base e size (.slice A n c) n xs) (h1 : ∀ u ∈ news.toList, u.oneCell' = true) (hn : n ≤ 10000000000) (hb : base ≤ w1.heap.size) :
    ∃ A' c' w', (Builtin.append_ #[t, t] ty #[.slice A n c, .slice (some ⟨w1.heap.size, 0, none⟩) 1 1]).run Tryz.prog (w1.alloc (.cells news e)) = .ok (.slice A' (n + 1) c') w' ∧ w'.ownsRow base e size (.slice A' (n + 1) c') (n + 1) (xs ++ news.toList) ∧ w1.grownBy w' (Value.slice A n c).ownBlock ∧ Loc w1 (.slice A n c) (.slice A' (n + 1) c') := by
  obtain ⟨A', c', w', hrun, h2, h3, h4⟩ := run_app E ty (w1.alloc (.cells news e)) base n c A xs (hown.alloc _) (w1.heap.size + 1) (some ⟨w1.heap.size, 0, none⟩) 1 1 news.toList (Rd.newAt _ _ rfl news e 1 size (by omega)) h1 (by omega) (by simp; omega)
  refine ⟨A', c', w', hrun, h2, ⟨h3.os, h3.tape, h3.output, Nat.le_trans (by simp) h3.size, fun i hi hne => ?_⟩, h4.imp id fun h5 g hg => by have := h5 g hg; simp at this; omega⟩
  exact (h3.block i (by simp; omega) hne).trans (Below.heap_alloc _ _ _ hi)
theorem sizeWord (w : World) : (sizeOf 124).run Tryz.prog w = .ok 3 w := by kernel_rfl
theorem sizeInt (w : World) : (sizeOf 3).run Tryz.prog w = .ok 1 w := by kernel_rfl
theorem run_sub {T E size : Nat} (hT : Tryz.prog.underlying T = some (.slice E)) (hs : ∀ w, (sizeOf E).run Tryz.prog w = .ok size w) (A : Option Addr) (n c k : Nat) (z : Int) (hz : z = (k : Int)) (hk : k ≤ n) (w : World) :
    (Instr.slice T (.slice A n c) (some (.int .i64 z)) none none).run Tryz.prog w = .ok (.slice (if c = k then A else A.map (·.add (k * size))) (n - k) (c - k)) w := by
  subst hz
  simp [Instr.slice, Instr.sliceBounds, Instr.sliceBound, asIntOf, run_underlying hT, hs, Result.andThen, hk]
theorem drop_flat {α : Type} (f : α → List Value) (size : Nat) (hf : ∀ x, (f x).length = size) (l : List α) (k : Nat) : (l.drop k).flatMap f = (l.flatMap f).drop (k * size) := by
  induction k generalizing l with
  | zero => simp
  | succ k ih =>
    cases l with
    | nil => simp
    | cons x r =>
      have hnil : (f x).drop ((k + 1) * size) = [] := List.drop_eq_nil_of_le (by rw [hf, Nat.add_mul]; omega)
      rw [List.drop_succ_cons, ih, List.flatMap_cons, List.drop_append, hnil, hf, Nat.add_mul, Nat.one_mul, Nat.add_sub_cancel]
      rfl
theorem c3s_drop (ws : List P3) (k : Nat) : c3s (ws.drop k) = (c3s ws).drop (k * 3) := drop_flat c3 3 (fun _ => rfl) ws k
/-- what the end of a row reads as -/
theorem RdT.sub {w : World} {t : TypeId} {A : Option Addr} {n c k size : Nat} {cs : List Value} (h : RdT w t A n size cs) (hk : k ≤ n) (hc : n ≤ c) : RdT w t (if c = k then A else A.map (·.add (k * size))) (n - k) size (cs.drop (k * size)) := by
  refine ⟨by rw [List.length_drop, h.1, Nat.sub_mul], fun h0 => ?_⟩
  obtain ⟨b, o, cur, e, hb, hr⟩ := h.2 (by omega)
  rw [if_neg (by omega), e]
  refine ⟨b, o + k * size, cur, ?_, hb, fun j u hu => ?_⟩
  · simp only [Option.map_some, Addr.add]
    by_cases hz : k * size = 0
    · rw [if_pos hz, hz]; rfl
    · rw [if_neg hz]
  · rw [List.getElem?_drop] at hu
    rw [Nat.add_assoc]
    exact hr _ u hu
/-- a line without its first words -/
theorem LnAt.sub {w : World} {A : Option Addr} {n c : Nat} {ws : List P3} (h : LnAt w A n ws) (hc : n ≤ c) (k : Nat) (z : Int) (hz : z = (k : Int)) (hk : k ≤ n) :
    ∃ A', (∀ w', (Instr.slice 119 (.slice A n c) (some (.int .i64 z)) none none).run Tryz.prog w' = .ok (.slice A' (n - k) (c - k)) w') ∧ RdT w 124 A' (n - k) 3 (c3s (ws.drop k)) ∧ (∀ x ∈ ws.drop k, x.2.2.length ≤ 1000000) :=
  ⟨_, fun w' => run_sub Tryz.underlying119 sizeWord A n c k z hz hk w', by rw [c3s_drop]; exact h.rd.sub hk hc, fun x hx => h.len x (List.mem_of_mem_drop hx)⟩
theorem txts_drop (ws : List P3) (k : Nat) : txts (ws.drop k) = (txts ws).drop k := by simp [txts, List.map_drop]
theorem txts_rest {ws : List P3} {t : B} {l : List B} (h : txts ws = t :: l) : txts (ws.drop 1) = l := by rw [txts_drop, h]; rfl
theorem txts_all {ws : List P3} (pr : B → Bool) : ws.all (fun x => pr x.2.2) = (txts ws).all pr := by simp [txts, List.all_map, Function.comp_def]
end Go.Proofs.YtkijckccfookeaaGreatDoor
