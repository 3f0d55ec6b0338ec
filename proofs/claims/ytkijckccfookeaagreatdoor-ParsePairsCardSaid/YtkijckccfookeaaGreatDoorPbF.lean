/- parse: a rule, the walk. -/
import Derived.Test.YtkijckccfookeaaGreatDoorM28
import Derived.Deep.DeepCutAuto
import Derived.Deep.RegionHeld3
namespace Go.Proofs.YtkijckccfookeaaGreatDoor
open Go.RowKit
attribute [-go_sem] Builtin.append_

/-- the three sets' rows in memory -/
structure Three (w1 wr : World) (r3 : List P3) (A3 : Option Addr) (k3 c3 : Nat) (S0 S1 S2 : List (List P3)) (B0 B1 B2 : Option Addr) (d0 d1 d2 : Nat) (h0 h1 h2 : List Value) : Prop where
  parts : ∃ a b c, Bk wr w1.heap.size tArr #[a, b, c, .slice A3 k3 c3]
  wrt : Bk wr (w1.heap.size + 1) tWr #[.slice B0 S0.length d0, .slice B1 S1.length d1, .slice B2 S2.length d2]
  rd : RdT wr tWd A3 k3 3 (c3s r3)
  q0 : RdT wr tRw B0 S0.length 1 h0
  q1 : RdT wr tRw B1 S1.length 1 h1
  q2 : RdT wr tRw B2 S2.length 1 h2
  i0 : RowsIn tWd wr h0 S0
  i1 : RowsIn tWd wr h1 S1
  i2 : RowsIn tWd wr h2 S2
theorem WrSt.three {w1 wr : World} {r0 r1 r2 r3 : List P3} {A0 A1 A2 A3 : Option Addr} {k0 k1 k2 k3 c0 c1 c2 c3 : Nat} (h : WrSt w1 [r0, r1, r2, r3] [.slice A0 k0 c0, .slice A1 k1 c1, .slice A2 k2 c2, .slice A3 k3 c3] 3 wr) :
    Below w1.heap.size w1 wr ∧ ∃ S0 S1 S2, setsL r0 = some S0 ∧ setsL r1 = some S1 ∧ setsL r2 = some S2 ∧ ∃ B0 B1 B2 d0 d1 d2 h0 h1 h2, Three w1 wr r3 A3 k3 c3 S0 S1 S2 B0 B1 B2 d0 d1 d2 h0 h1 h2 := by
  obtain ⟨hs, l3, b1, b2, hin, hb, hj⟩ := h
  obtain ⟨S0, B0, d0, g0, e0, f0, m0, n0⟩ := hj 0 r0 (by omega) rfl
  obtain ⟨S1, B1, d1, g1, e1, f1, m1, n1⟩ := hj 1 r1 (by omega) rfl
  obtain ⟨S2, B2, d2, g2, e2, f2, m2, n2⟩ := hj 2 r2 (by omega) rfl
  refine ⟨hb, S0, S1, S2, e0, e1, e2, B0, B1, B2, d0, d1, d2, g0, g1, g2, ⟨_, _, _, b1⟩, ?_, ?_, m0, m1, m2, n0, n1, n2⟩
  · match hs, l3, b2, f0, f1, f2 with
    | [a, b, c], _, b2, f0, f1, f2 =>
      cases f0
      cases f1
      cases f2
      exact b2
  · obtain ⟨Ar, kr, cr, hv, hr, -⟩ := hin.2 3 r3 rfl
    cases hv
    exact hr
theorem Three.below {w1 wr w2 : World} {r3 : List P3} {A3 : Option Addr} {k3 c3 : Nat} {S0 S1 S2 : List (List P3)} {B0 B1 B2 : Option Addr} {d0 d1 d2 : Nat} {h0 h1 h2 : List Value} (h : Three w1 wr r3 A3 k3 c3 S0 S1 S2 B0 B1 B2 d0 d1 d2 h0 h1 h2) (hb : Below wr.heap.size wr w2) : Three w1 w2 r3 A3 k3 c3 S0 S1 S2 B0 B1 B2 d0 d1 d2 h0 h1 h2 := by
  obtain ⟨a, b, c, hp⟩ := h.parts
  exact ⟨⟨a, b, c, hp.keep (hb.block _ hp.lt)⟩, h.wrt.keep (hb.block _ h.wrt.lt), h.rd.below hb, h.q0.below hb, h.q1.below hb, h.q2.below hb, h.i0.below hb, h.i1.below hb, h.i2.below hb⟩
theorem Three.reader {w1 wr w2 : World} {r3 : List P3} {A3 : Option Addr} {k3 c3 : Nat} {S0 S1 S2 : List (List P3)} {B0 B1 B2 : Option Addr} {d0 d1 d2 : Nat} {h0 h1 h2 : List Value} {rb p : Nat} {er : Int} (h : Three w1 wr r3 A3 k3 c3 S0 S1 S2 B0 B1 B2 d0 d1 d2 h0 h1 h2) (hr : Rdr wr rb p er) (hg : wr.grownBy w2 (some rb)) : Three w1 w2 r3 A3 k3 c3 S0 S1 S2 B0 B1 B2 d0 d1 d2 h0 h1 h2 := by
  obtain ⟨a, b, c, hp⟩ := h.parts
  have hx : ∀ (t : TypeId), t ≠ tRdr → ∀ g, some rb = some g → ∃ cur t', Bk wr g t' cur ∧ t ≠ t' := fun t ht g e => by
    cases e
    exact ⟨_, _, hr, ht⟩
  have hb : ∀ (g : Nat) (t : TypeId) (cs : Array Value), Bk wr g t cs → t ≠ tRdr → Bk w2 g t cs := fun g t cs hk ht => Bk.kept2 hg hk (fun e => by subst e; exact ht (bk_one hk hr).1)
  exact ⟨⟨a, b, c, hb _ _ _ hp (by decide)⟩, hb _ _ _ h.wrt (by decide), h.rd.grown hg (hx _ (by decide)), h.q0.grown hg (hx _ (by decide)), h.q1.grown hg (hx _ (by decide)), h.q2.grown hg (hx _ (by decide)), h.i0.kept fun _ _ _ k => k.grown hg (hx _ (by decide)), h.i1.kept fun _ _ _ k => k.grown hg (hx _ (by decide)), h.i2.kept fun _ _ _ k => k.grown hg (hx _ (by decide))⟩
def isOne (kd : Int) : Bool := kd == 1 || kd == 5
theorem rRule_bad (gl : Gl) (s : PS) {l : List B} {init : List Lookup} {lk : Lookup} (hs : s.f.lookups = init ++ [lk]) {p0 p1 p2 p3 : List B} (h : partsT l = some [p0, p1, p2, p3]) {T0 T1 T2 : List (List B)} (h0 : setsT p0 = some T0) (h1 : setsT p1 = some T1) (h2 : setsT p2 = some T2) (hbad : (isOne lk.kind && T1.length != 1 || !areOut lk.kind p3) = true) : rRule gl s l = .error 22 := by
  unfold rRule
  rw [hs, List.getLast?_append]
  simp only [List.getLast?_singleton, Option.some_or]
  rw [h]
  simp only
  rw [h0, h1, h2]
  simp only
  by_cases c1 : (lk.kind = 1 ∨ lk.kind = 5) ∧ T1.length ≠ 1
  · rw [if_pos c1]
  · rw [if_neg c1, if_pos]
    cases ha : areOut lk.kind p3 with
    | false => rfl
    | true =>
      rw [ha] at hbad
      exfalso
      apply c1
      simp only [Bool.not_true, Bool.or_false, Bool.and_eq_true, isOne, Bool.or_eq_true, beq_iff_eq, bne_iff_ne] at hbad
      exact hbad
theorem parts_mem (n : Nat) (cur : List P3) (told : List (List P3)) (ws : List P3) (rows : List (List P3)) (h : partsGoP n cur told ws = some rows) : ∀ r ∈ rows, r ∈ told ∨ ∀ x ∈ r, x ∈ cur ∨ x ∈ ws := by
  induction ws generalizing n cur told with
  | nil =>
    rw [partsGoP] at h
    split at h
    · cases h
      intro r hr
      rcases List.mem_append.1 hr with g | g
      · exact .inl g
      · simp only [List.mem_singleton] at g
        subst g
        exact .inr fun x hx => .inl hx
    · cases h
  | cons w r ih =>
    rw [partsGoP] at h
    split at h
    · intro x hx
      refine (ih n (cur ++ [w]) told h x hx).imp id fun g y hy => ?_
      rcases g y hy with g | g
      · rcases List.mem_append.1 g with g | g
        · exact .inl g
        · simp only [List.mem_singleton] at g
          exact .inr (by simp [g])
      · exact .inr (by simp [g])
    · split at h
      · intro x hx
        rcases ih (n + 1) [] (told ++ [cur]) h x hx with g | g
        · rcases List.mem_append.1 g with g | g
          · exact .inl g
          · simp only [List.mem_singleton] at g
            subst g
            exact .inr fun y hy => .inl hy
        · refine .inr fun y hy => ?_
          rcases g y hy with g | g
          · simp at g
          · exact .inr (by simp [g])
      · cases h
theorem partsL_mem {ws : List P3} {rows : List (List P3)} (h : partsL ws = some rows) : ∀ r ∈ rows, ∀ x ∈ r, x ∈ ws := fun r hr x hx => by
  rcases parts_mem 0 [] [] ws rows h r hr with g | g
  · simp at g
  · rcases g x hx with g | g
    · simp at g
    · exact g
theorem cellBw {w w' : World} (hb : Below w.heap.size w w') {p : Addr} {v : Value} (h : w.cell? p = some v) : w'.cell? p = some v := (hb.cell (World.block_lt_of_cell? w p h)).trans h
theorem belowUn {w w' : World} (h : Below w.drew.heap.size w.drew w') : Below w.heap.size w w' := ⟨h.os, h.tape, h.output, h.size, h.block⟩
theorem ruleOf_i64 (gl : Gl) (hg : ∀ t n, gl.lookup t = some n → n ≤ 1000000000) (kind : Int) (b i a : List (List Int)) (p3 : List B) : (∀ y ∈ (ruleOf gl kind b i a p3).out, I64 y) ∧ (∀ y ∈ (ruleOf gl kind b i a p3).calls, I64 y.at' ∧ I64 y.lookup) ∧ I64 (ruleOf gl kind b i a p3).x := by
  unfold ruleOf
  simp only
  refine ⟨?_, ?_, ?_⟩
  · split
    · intro y hy
      obtain ⟨t, _, rfl⟩ := List.mem_map.1 hy
      exact vGl_i64 hg t
    · intro y hy; simp at hy
  · split
    · intro y hy
      obtain ⟨t, _, rfl⟩ := List.mem_map.1 hy
      exact ⟨numV_i64 _, numV_i64 _⟩
    · intro y hy; simp at hy
  · split
    · exact numV_i64 _
    · exact ⟨by omega, by omega⟩
theorem trows_len (S : List (List P3)) : (trows S).length = S.length := by simp [trows]
theorem SortPost.shape {w w' : World} {r : Except Int (List Int)} {e : Ending} (h : SortPost w r e w') : ∃ A n c, ∃ code : Int, e = .returned (.tuple #[.slice A n c, .int .i64 code]) ∧ SortPost w r (.returned (.tuple #[.slice A n c, .int .i64 code])) w' := by
  obtain ⟨h1, h2⟩ := h
  cases r with
  | error c => exact ⟨none, 0, 0, c, h2, h1, rfl⟩
  | ok o =>
    obtain ⟨A, c, h3, h4⟩ := h2
    exact ⟨A, _, c, 0, h3, h1, A, c, rfl, h4⟩
theorem ruleOf_len (gl : Gl) (kd : Int) (b i a : List (List Int)) (p : List B) : (ruleOf gl kd b i a p).out.length ≤ p.length := by
  unfold ruleOf
  simp only
  split <;> simp
theorem sortOut_err {l nm : List Int} {e : Int} (h : sortOut l nm = .error e) : e = 24 ∨ e = 22 := by
  unfold sortOut at h
  split at h
  · injection h with h; exact .inl h.symm
  · split at h
    · injection h with h; exact .inr h.symm
    · cases h
theorem sortOut_i64 {l nm o : List Int} (h : sortOut l nm = .ok o) (hn : ∀ x ∈ nm, I64 x) : ∀ x ∈ o, I64 x := by
  unfold sortOut at h
  split at h
  · cases h
  · split at h
    · cases h
    · injection h with h
      subst h
      intro x hx
      rw [List.mem_map] at hx
      obtain ⟨g, -, rfl⟩ := hx
      rw [List.getD_eq_getElem?_getD]
      cases hg : nm[l.idxOf g]? with
      | none => exact ⟨by decide, by decide⟩
      | some v => exact hn v (List.mem_of_getElem? hg)
set_option maxRecDepth 100000 in
set_option maxHeartbeats 8000000 in
theorem readRule_ok (w : World) (Bd p gm cm : Nat) (gl : Gl) (s : PS) (rv : Rows) (K : Nat) (A : Option Addr) (n c : Nat) (ws : List P3) (t : B) (l : List B) (hP : PSt w Bd p gm cm gl s rv K) (hL : LnAt w A n ws) (hT : txts ws = t :: l) (hK : K ≤ 10000000000) (hc : n ≤ c) {init : List Lookup} {lk : Lookup} (hs : s.f.lookups = init ++ [lk]) {G n0 c9 q : Nat} (h0 : (rv 2).v = .slice (some ⟨G, 0, none⟩) n0 c9) (hq : q = init.length * 3) :
    Calls Tryz.prog 89 #[.pointer (some ⟨p, 0, none⟩), .slice A n c, .pointer (some ⟨G, q, none⟩)] w (StPost w Bd p gm cm gl (K + n) (rRule gl s l)) := by
  have hn : n = l.length + 1 := by rw [← hL.length]; exact txts_cons hT
  have hB := hP.size
  have hnn := hL.few
  have hwsl := hL.length
  obtain ⟨A', hsub, hrd, hlen⟩ := hL.sub hc 1 1 rfl (by omega)
  have hrest := txts_rest hT
  have HP := Lib.hid hP
  obtain ⟨G', c9', ci, gv, -, -, hGb, gcell, gfz, gbk⟩ := hP.lookup_cells hs
  obtain ⟨rfl, hn0, rfl⟩ : G' = G ∧ init.length + 1 = n0 ∧ c9' = c9 := by rw [gv] at h0; simpa using h0
  have hpb : G' < w.heap.size := hGb
  have kq : w.cell? ⟨G', q, none⟩ = some (.int .i64 lk.kind) := by have := gcell 0 (by decide); rw [Nat.add_zero, ← hq] at this; exact this
  have KQ0 := Lib.hid kq
  have KQ2 : Hid (w.cell? ⟨G', q + 2, none⟩ = some (rv 14).v) := by show _ = _; rw [hq]; exact gcell 2 (by decide)
  have Hs := Lib.hid hs
  have Hq := Lib.hid hq
  have H0 := Lib.hid h0
  have Hgbk := Lib.hid gbk
  have HL := Lib.hid hlen
  have HRD := Lib.hid hrd
  have hds : (ws.drop 1).length ≤ 1000000000 := by rw [List.length_drop]; omega
  have HDS := Lib.hid hds
  have hcut := Lib.hid (cutRule_ok w A' (n - 1) (c - 1) (ws.drop 1) hrd (by omega))
  have hn1 : 1 ≤ n := by omega
  have hpT := partsT_txts (ws.drop 1)
  rw [hrest] at hpT
  have HPT := Lib.hid hpT
  have Hrest := Lib.hid hrest
  generalize ws.drop 1 = ws1 at *
  clear hP hL hT hrd hlen hn hrest hs hq h0 gv gcell gfz gbk hn0 hds hpT hwsl
  go_enter Tryz.func89, Tryz.ntmps89
  go_wp2_with fail
  refine hcut.out.mono ?_
  rintro e w1 ⟨hb1, A0, k0, c0, A1, k1, c1, A2, k2, c2, A3, k3, c3, hpost⟩
  cases hpl : partsL ws1 with
  | none =>
    have HR : Hid (rRule gl s l = .error 22) := rRule_none gl s Hs.out (by rw [HPT.out, hpl]; rfl)
    rw [hpl] at hpost
    have hpost : e = _ := hpost
    subst hpost
    have HB := Lib.hid ((hb1.alloc hb1.size (.cells #[.slice A0 k0 c0, .slice A1 k1 c1, .slice A2 k2 c2, .slice A3 k3 c3] tArr)).mono hB)
    clear hb1 hpl
    go_wp2
    go_ret
    exact StPost.bad HR.out HB.out
  | some rows =>
    rw [hpl] at hpost
    obtain ⟨rfl, hin⟩ : e = _ ∧ RowsIn tWd w1 _ rows := hpost
    have HST := Lib.hid (WrSt.start hin)
    obtain ⟨hr4, hrl⟩ := partsL_lens hpl
    obtain ⟨r0, r1, r2, r3, rfl⟩ : ∃ a b c d, rows = [a, b, c, d] := by
      match rows, hr4 with
      | [a, b, c, d], _ => exact ⟨a, b, c, d, rfl⟩
    have HPL : Hid (partsT l = some [txts r0, txts r1, txts r2, txts r3]) := by show _ = _; rw [HPT.out, hpl]; rfl
    have HRL := Lib.hid hrl
    have HL3 : Hid (∀ x ∈ r3, x.2.2.length ≤ 1000000) := fun x hx => HL.out x (partsL_mem hpl r3 (by simp) x hx)
    have Hb1 := Lib.hid hb1
    have hs1 := hb1.size
    clear hb1 hpl hin hr4 hrl hcut HPT
    go_wp2_with fail
    go_loopw [26] (fun i wr => ∃ k : Nat, k ≤ 3 ∧ i = .int .i64 k ∧ WrSt w1 [r0, r1, r2, r3] [.slice A0 k0 c0, .slice A1 k1 c1, .slice A2 k2 c2, .slice A3 k3 c3] k wr) (fun i _ => 3 - (intOf i).toNat)
    case atStart => exact ⟨0, by omega, rfl, HST.out⟩
    case round =>
      obtain ⟨k, hk, rfl, hst⟩ := hrel
      by_cases hlt : k < 3
      · obtain ⟨hs3, l3, b1, b2, hin, hb, hj⟩ := hst
        obtain ⟨r, hrk⟩ : ∃ r, [r0, r1, r2, r3][k]? = some r := ⟨_, List.getElem?_eq_getElem (by simp; omega)⟩
        obtain ⟨Ar, kr, cr, hvk, hrr, hkc⟩ := hin.2 k r hrk
        have q1 : wr.cell? ⟨w1.heap.size, k, none⟩ = some (.slice Ar kr cr) := (b1.cell k).trans (by simpa using hvk)
        have z1 := b1.lt
        have z2 := b2.lt
        have hk4 : (k : Int) < 4 := by omega
        have hk3 : (k : Int) < 3 := by omega
        have hkr : kr = r.length := hrr.rd.len3.symm
        have hrm := HRL.out r (List.mem_of_getElem? hrk)
        have hds9 := HDS.out
        have hset := Lib.hid (wSets_ok wr r wr.heap.size Ar kr cr hrr.rd (Nat.le_refl _) (by omega))
        have HST3 : Hid (WrSt w1 [r0, r1, r2, r3] [.slice A0 k0 c0, .slice A1 k1 c1, .slice A2 k2 c2, .slice A3 k3 c3] k wr) := ⟨hs3, l3, b1, b2, hin, hb, hj⟩
        have hold : ∃ u, wr.cell? ⟨w1.heap.size + 1, k, none⟩ = some u ∧ Hid (∀ w2, Below wr.heap.size wr w2 → w2.cell? ⟨w1.heap.size + 1, k, none⟩ = some u ∧ w2.frozen? ⟨w1.heap.size + 1, k, none⟩ = false ∧ w1.heap.size + 1 < w2.heap.size) := by
          obtain ⟨u, hu⟩ : ∃ u, hs3[k]? = some u := ⟨_, List.getElem?_eq_getElem (by omega)⟩
          refine ⟨u, (b2.cell k).trans (by simpa using hu), fun w2 hb2 => ?_⟩
          have b2' := b2.keep (hb2.block _ b2.lt)
          exact ⟨(b2'.cell k).trans (by simpa using hu), b2'.frozen k, b2'.lt⟩
        obtain ⟨u, qu, hold⟩ := hold
        have Hb := Lib.hid hb
        clear b1 b2 hin hb hj l3 hrr hkr hrm hds9 hvk
        cases hsl : setsL r with
        | none =>
          have HR : Hid (rRule gl s l = .error 22) := rRule_sets gl s Hs.out HPL.out (by
            have h3 : k = 0 ∨ k = 1 ∨ k = 2 := by omega
            rcases h3 with rfl | rfl | rfl
            · cases hrk; exact .inl (by rw [setsT_txts, hsl]; rfl)
            · cases hrk; exact .inr (.inl (by rw [setsT_txts, hsl]; rfl))
            · cases hrk; exact .inr (.inr (by rw [setsT_txts, hsl]; rfl)))
          have hs2 : ∀ e w', SetsPost tWd tRw wr r e w' → e = .returned (.tuple #[.slice none 0 0, .bool false]) ∧ Below wr.heap.size wr w' := fun e w' h => by unfold SetsPost at h; rw [hsl] at h; exact h
          have HS2 := Lib.hid hs2
          clear hs2 hsl hrk
          go_wp2_with fail
          refine hset.out.mono ?_
          rintro e w2 hpost
          obtain ⟨rfl, hb2⟩ := HS2.out _ _ hpost
          obtain ⟨y1, y2, y3⟩ := hold.out w2 hb2
          have HB : Hid (Below Bd w (w2.setCell ⟨w1.heap.size + 1, k, none⟩ (.slice none 0 0))) := (((Hb1.out.trans (Hb.out.mono Hb1.out.size)).trans (hb2.mono (by omega))).setCell (by simp; omega) _).mono hB
          clear hpost hb2 hold
          go_wp2_with fail
          go_ret
          exact StPost.bad HR.out HB.out
        | some S =>
          have hs2 : ∀ e w', SetsPost tWd tRw wr r e w' → ∃ v, e = .returned (.tuple #[v, .bool true]) ∧ RetRows tWd tRw wr w' S v := fun e w' h => by unfold SetsPost at h; rw [hsl] at h; exact h
          have HS2 := Lib.hid hs2
          have HNX : Hid (∀ w2 v, RetRows tWd tRw wr w2 S v → WrSt w1 [r0, r1, r2, r3] [.slice A0 k0 c0, .slice A1 k1 c1, .slice A2 k2 c2, .slice A3 k3 c3] (k + 1) (w2.setCell ⟨w1.heap.size + 1, k, none⟩ v)) := fun w2 v hret => HST3.out.next hlt hrk hsl hret
          clear hs2 hsl hrk
          go_wp2_with fail
          refine hset.out.mono ?_
          rintro e w2 hpost
          obtain ⟨v, rfl, hret⟩ := HS2.out _ _ hpost
          have HN2 := Lib.hid (HNX.out w2 v hret)
          obtain ⟨A9, c9, h9, rfl, -, -, hb2⟩ := hret
          obtain ⟨y1, y2, y3⟩ := hold.out w2 hb2
          clear hpost hb2 hold HNX
          go_wp2_with fail
          go_roundw
          case rel => exact ⟨k + 1, by omega, by simp, HN2.out⟩
          case measure => simp [intOf]; omega
      · obtain rfl : k = 3 := by omega
        obtain ⟨hb3, S0, S1, S2, e0, e1, e2, B0, B1, B2, d0, d1, d2, h0, h1, h2, hT3⟩ := hst.three
        have HT3 := Lib.hid hT3
        have HS0 : Hid (setsT (txts r0) = some (trows S0)) := by show _ = _; rw [setsT_txts, e0]; rfl
        have HS1 : Hid (setsT (txts r1) = some (trows S1)) := by show _ = _; rw [setsT_txts, e1]; rfl
        have HS2 : Hid (setsT (txts r2) = some (trows S2)) := by show _ = _; rw [setsT_txts, e2]; rfl
        have HE := Lib.hid (And.intro (setsL_lens e0) (And.intro (setsL_lens e1) (setsL_lens e2)))
        have Hb3 := Lib.hid (hb3.mono hs1)
        have HB3 : Hid (Below w.heap.size w wr) := Hb1.out.trans Hb3.out
        have z3 := hb3.size
        have kd : wr.cell? ⟨G', q, none⟩ = some (.int .i64 lk.kind) := ((bcell HB3.out).1 _ _ hpb).trans kq
        have zG : G' < wr.heap.size := by omega
        clear hst e0 e1 e2 hT3 hb3 hsub HST kq
        go_upto_region 12 with fail
        go_cut [11] from 18 to 135 (fun s11 wx => s11 = .bool (isOne lk.kind) ∧ wr = wx)
        case first =>
          by_cases kk1 : lk.kind = 1
          · have hb : Hid (isOne lk.kind = true) := by show _ = _; rw [kk1]; rfl
            have e1 : (lk.kind == 1) = true := by simp [kk1]
            clear kk1
            go_wp2_with fail
            go_meet
            exact ⟨by rw [hb.out], rfl⟩
          · have e1 : (lk.kind == 1) = false := by simpa using kk1
            have hb : Hid (isOne lk.kind = (lk.kind == 5)) := by show _ = _; unfold isOne; rw [e1]; rfl
            clear kk1
            go_wp2_with fail
            go_meet
            exact ⟨by rw [hb.out], rfl⟩
        case rest =>
          obtain ⟨rfl, hwx⟩ := hcut
          subst hwx
          have m1 : wr.cell? ⟨w1.heap.size + 1, 1, none⟩ = some (.slice B1 S1.length d1) := HT3.out.wrt.cell 1
          have x3 : wr.cell? ⟨w1.heap.size, 3, none⟩ = some (.slice A3 k3 c3) := by
            obtain ⟨a, b, c, h⟩ := HT3.out.parts
            exact h.cell 3
          have zP : w1.heap.size + 1 < wr.heap.size := HT3.out.wrt.lt
          have hk3 : k3 = r3.length := HT3.out.rd.rd.len3.symm
          have hk39 : k3 ≤ 1000000000 := by
            have h1 := HRL.out r3 (by simp)
            have h2 := HDS.out
            omega
          have hareX : ∀ x : WIn (fun v => Below wr.heap.size wr v), Calls Tryz.prog 135 #[.int .i64 lk.kind, .slice A3 k3 c3] x.w fun e w'' => e = .returned (.bool (areOut lk.kind (txts r3))) ∧ ∃ y : WIn (fun v => Below wr.heap.size wr v), w'' = y.w := fun x => (areOut_ok x.w lk.kind A3 k3 c3 r3 (HT3.out.rd.below x.ok) HL3.out hk39).mono fun e w'' ⟨h1, h2⟩ => ⟨h1, ⟨⟨w'', x.ok.trans (h2.mono x.ok.size)⟩, rfl⟩⟩
          have kdX : ∀ x : WIn (fun v => Below wr.heap.size wr v), x.w.cell? ⟨G', q, none⟩ = some (.int .i64 lk.kind) := fun x => cellBw x.ok kd
          have m1X : ∀ x : WIn (fun v => Below wr.heap.size wr v), x.w.cell? ⟨w1.heap.size + 1, 1, none⟩ = some (.slice B1 S1.length d1) := fun x => cellBw x.ok m1
          have x3X : ∀ x : WIn (fun v => Below wr.heap.size wr v), x.w.cell? ⟨w1.heap.size, 3, none⟩ = some (.slice A3 k3 c3) := fun x => cellBw x.ok x3
          clear hk3
          generalize harB : areOut lk.kind (txts r3) = ab at *
          generalize hoB : isOne lk.kind = ob at *
          have HarB := Lib.hid harB
          have HoB := Lib.hid hoB
          clear harB hoB
          go_upto_region 13 with fail
          go_cut [69] from 18 to 135 (fun s69 wx => s69 = .bool (ob && S1.length != 1 || !ab) ∧ Below wr.heap.size wr wx)
          case first =>
            cases ob with
            | true =>
              by_cases hs1l : S1.length = 1
              · have e1 : ((S1.length : Int) != 1) = false := by simp [hs1l]
                have e2 : Hid ((S1.length != 1) = false) := Lib.hid (by simp [hs1l])
                clear hs1l
                go_wp2_with fail
                refine wp_region_in (fun v => Below wr.heap.size wr v) (by kernel_rfl) (by kernel_rfl) ((Below.refl wr.heap.size wr).drew) ?_
                have nonemptyIn : Nonempty (WIn (fun v => Below wr.heap.size wr v)) := ⟨⟨_, ((Below.refl wr.heap.size wr).drew)⟩⟩
                repeat (go_big_quiet_step (exact hareX _))
                refine wpQuiet_nil ?_
                intro _ hw'
                obtain ⟨xq, hw''⟩ := hw'
                subst hw''
                go_wp2
                go_meet
                exact ⟨by rw [e2.out]; simp, xq.ok⟩
              · have e1 : ((S1.length : Int) != 1) = true := by simp; omega
                have e2 : Hid ((S1.length != 1) = true) := Lib.hid (by simp; omega)
                clear hs1l
                go_wp2_with fail
                go_quiet (fail)
                go_wp2
                go_meet
                exact ⟨by rw [e2.out]; simp, below_drewN (Below.refl _ _) _⟩
            | false =>
              go_wp2_with fail
              refine wp_region_in (fun v => Below wr.heap.size wr v) (by kernel_rfl) (by kernel_rfl) ((Below.refl wr.heap.size wr).drew) ?_
              have nonemptyIn : Nonempty (WIn (fun v => Below wr.heap.size wr v)) := ⟨⟨_, ((Below.refl wr.heap.size wr).drew)⟩⟩
              repeat (go_big_quiet_step (exact hareX _))
              refine wpQuiet_nil ?_
              intro _ hw'
              obtain ⟨xq, hw''⟩ := hw'
              subst hw''
              go_wp2
              go_meet
              exact ⟨by simp, xq.ok⟩
          case rest =>
            obtain ⟨rfl, hbx⟩ := hcut
            cases hbad : (ob && S1.length != 1 || !ab) with
            | true =>
              have HR : Hid (rRule gl s l = .error 22) := rRule_bad gl s Hs.out HPL.out HS0.out HS1.out HS2.out (by rw [HoB.out, HarB.out, trows_len]; exact hbad)
              have HB := Lib.hid ((HB3.out.trans (hbx.mono HB3.out.size)).mono hB)
              clear hbad hbx
              go_wp2_with fail
              go_ret
              exact StPost.bad HR.out HB.out
            | false =>
              have HT4 := Lib.hid (HT3.out.below hbx)
              have HB4 : Hid (Below w.heap.size w wc) := HB3.out.trans (hbx.mono HB3.out.size)
              have kd4 := cellBw hbx kd
              have z4 := hbx.size
              have hle : S0.length ≤ 1000000000 ∧ S1.length ≤ 1000000000 ∧ S2.length ≤ 1000000000 := by
                obtain ⟨⟨g0, -⟩, ⟨g1, -⟩, ⟨g2, -⟩⟩ := HE.out
                have f0 := HRL.out r0 (by simp)
                have f1 := HRL.out r1 (by simp)
                have f2 := HRL.out r2 (by simp)
                have hd := HDS.out
                omega
              have HLE := Lib.hid hle
              have HLR : Hid ((∀ r ∈ S0, r.length ≤ 1000000000) ∧ (∀ r ∈ S1, r.length ≤ 1000000000) ∧ (∀ r ∈ S2, r.length ≤ 1000000000)) := by
                obtain ⟨⟨-, g0⟩, ⟨-, g1⟩, ⟨-, g2⟩⟩ := HE.out
                have f0 := HRL.out r0 (by simp)
                have f1 := HRL.out r1 (by simp)
                have f2 := HRL.out r2 (by simp)
                have hd := HDS.out
                exact ⟨fun r hr => by have := g0 r hr; omega, fun r hr => by have := g1 r hr; omega, fun r hr => by have := g2 r hr; omega⟩
              have HII := Lib.hid (fun er l => run_i64 gl s.cls HP.out.glI HP.out.clsI er [] (by simp) l)
              clear kd m1 x3 kdX m1X x3X hareX hbx hle
              go_wp2_with fail
              refine (read_ok wc p).mono ?_
              rintro e w5 ⟨rfl, hr5, hb5⟩
              have HB5 : Hid (Below w.heap.size w w5) := HB4.out.trans (hb5.mono HB4.out.size)
              have hT5 := HT4.out.below hb5
              have hA5 := (HP.out.below HB5.out).at
              have z5 := hb5.size
              have m0 : w5.cell? ⟨w1.heap.size + 1, 0, none⟩ = some (.slice B0 S0.length d0) := hT5.wrt.cell 0
              have m1 : w5.cell? ⟨w1.heap.size + 1, 1, none⟩ = some (.slice B1 S1.length d1) := hT5.wrt.cell 1
              have m2 : w5.cell? ⟨w1.heap.size + 1, 2, none⟩ = some (.slice B2 S2.length d2) := hT5.wrt.cell 2
              have HROW : Hid (∀ W er B n d S h, Rdr W wc.heap.size p er → PAt W p gm cm gl s.cls → RdT W tRw B n 1 h → RowsIn tWd W h S → n ≤ 1000000000 → (∀ r ∈ S, r.length ≤ 1000000000) → Calls Tryz.prog 136 #[.pointer (some ⟨wc.heap.size, 0, none⟩), .slice B n d] W (fun e w' => ∃ v, e = .returned v ∧ RowsSt W wc.heap.size p (rowsRun gl s.cls er (trows S)).1 n (rowsRun gl s.cls er (trows S)).2 v w')) :=
                fun W er B n d S h g1 g2 g3 g4 g5 g6 => rows_ok W wc.heap.size p gm cm gl s.cls er B n d S h g1 g2 g3 g4 g5 g6 HII.out
              have Hr5 := Lib.hid hr5
              have HT5 := Lib.hid hT5
              have HA5 := Lib.hid hA5
              have Hb5 := Lib.hid hb5
              clear hr5 hT5 hA5 hb5
              go_wp2_with fail
              go_region_held3 (fun w' => w'.cell? ⟨w1.heap.size + 1, 0, none⟩ = some (.slice B0 S0.length d0) ∧ w'.cell? ⟨w1.heap.size + 1, 1, none⟩ = some (.slice B1 S1.length d1) ∧ w'.cell? ⟨w1.heap.size + 1, 2, none⟩ = some (.slice B2 S2.length d2))
                (first
                  | exact ⟨HT8.out.wrt.cell 0, HT8.out.wrt.cell 1, HT8.out.wrt.cell 2⟩
                  | exact ⟨HT7.out.wrt.cell 0, HT7.out.wrt.cell 1, HT7.out.wrt.cell 2⟩
                  | exact ⟨HT6.out.wrt.cell 0, HT6.out.wrt.cell 1, HT6.out.wrt.cell 2⟩
                  | exact ⟨m0, m1, m2⟩
                  | go_keep)
                (first
                  | (go_at_call 136; refine (HROW.out w7 _ _ _ _ S2 h2 Hr7.out HA7.out HT7.out.q2 HT7.out.i2 HLE.out.2.2 HLR.out.2.2).mono ?_; rintro e w8 ⟨v8, rfl, A8, c8, hs8, rfl, ho8, hf8, hr8, hg8⟩; have HT8 := Lib.hid (HT7.out.reader Hr7.out hg8); have HO8 := Lib.hid ho8; have HF8 := Lib.hid hf8; have Hr8 := Lib.hid hr8; have Hg8 := Lib.hid hg8; clear ho8 hf8 hr8 hg8)
                  | (go_at_call 136; refine (HROW.out w6 _ _ _ _ S1 h1 Hr6.out HA6.out HT6.out.q1 HT6.out.i1 HLE.out.2.1 HLR.out.2.1).mono ?_; rintro e w7 ⟨v7, rfl, A7, c7, hs7, rfl, ho7, hf7, hr7, hg7⟩; have HT7 := Lib.hid (HT6.out.reader Hr6.out hg7); have HA7 := Lib.hid (HA6.out.reader Hr6.out hg7); have HO7 := Lib.hid ho7; have HF7 := Lib.hid hf7; have Hr7 := Lib.hid hr7; have Hg7 := Lib.hid hg7; clear ho7 hf7 hr7 hg7)
                  | (go_at_call 136; refine (HROW.out w5.drew _ _ _ _ S0 h0 (by exact Hr5.out) (by exact (HA5.out.keep (w' := w5.drew) (fun _ _ _ _ _ => rfl) (fun _ _ _ _ => rfl))) (by exact HT5.out.q0.below (Below.refl _ w5).drew) (by exact HT5.out.i0.below (Below.refl _ w5).drew) HLE.out.1 HLR.out.1).mono ?_; rintro e w6 ⟨v6, rfl, A6, c6, hs6, rfl, ho6, hf6, hr6, hg6'⟩; have hg6 : w5.grownBy w6 (some wc.heap.size) := ⟨hg6'.os, hg6'.tape, hg6'.output, hg6'.size, hg6'.block⟩; have HT6 := Lib.hid (HT5.out.reader Hr5.out hg6); have HA6 := Lib.hid (HA5.out.reader Hr5.out hg6); have HO6 := Lib.hid ho6; have HF6 := Lib.hid hf6; have Hr6 := Lib.hid hr6; have Hg6 := Lib.hid hg6; clear ho6 hf6 hr6 hg6 hg6'))
              have HRW0 : Hid (RowsRd w5.drew.heap.size A6 S0.length hs6 (rowsRun gl s.cls 0 (trows S0)).2 w8) := ((RowsRd.mk' HO6.out HF6.out).reader Hr6.out Hg7.out).reader Hr7.out Hg8.out
              have HRW1 : Hid (RowsRd w6.heap.size A7 S1.length hs7 (rowsRun gl s.cls (rowsRun gl s.cls 0 (trows S0)).1 (trows S1)).2 w8) := (RowsRd.mk' HO7.out HF7.out).reader Hr7.out Hg8.out
              have HRW2 : Hid (RowsRd w7.heap.size A8 S2.length hs8 (rowsRun gl s.cls (rowsRun gl s.cls (rowsRun gl s.cls 0 (trows S0)).1 (trows S1)).1 (trows S2)).2 w8) := RowsRd.mk' HO8.out HF8.out
              have hzr : w.heap.size ≤ wc.heap.size := by omega
              have HB8 : Hid (Below w.heap.size w w8) := below_rdr (below_rdr (below_rdr HB5.out Hg6.out hzr) Hg7.out hzr) Hg8.out hzr
              have HLn : Hid (∀ er l, ∀ r ∈ (rowsRun gl s.cls er l).2, r.length ≤ 1000000000) := fun er l => rowsRun_all gl s.cls (fun r => r.length ≤ 1000000000) (fun er l => Nat.le_trans (run_len gl s.cls HP.out.clsL er [] (by simp) l) (by omega)) er l
              have HIn : Hid (∀ er l, ∀ r ∈ (rowsRun gl s.cls er l).2, ∀ x ∈ r, I64 x) := fun er l => rowsRun_all gl s.cls (fun r => ∀ x ∈ r, I64 x) (fun er l => HII.out er l) er l
              have hl0 : (rowsRun gl s.cls 0 (trows S0)).2.length = S0.length := by rw [rowsRun_len, trows_len]
              have hl1 : (rowsRun gl s.cls (rowsRun gl s.cls 0 (trows S0)).1 (trows S1)).2.length = S1.length := by rw [rowsRun_len, trows_len]
              have hl2 : (rowsRun gl s.cls (rowsRun gl s.cls (rowsRun gl s.cls 0 (trows S0)).1 (trows S1)).1 (trows S2)).2.length = S2.length := by rw [rowsRun_len, trows_len]
              have HLl := Lib.hid (And.intro hl0 (And.intro hl1 hl2))
              have H0L := HLn.out 0 (trows S0)
              have H0I := HIn.out 0 (trows S0)
              have H1L := HLn.out (rowsRun gl s.cls 0 (trows S0)).1 (trows S1)
              have H1I := HIn.out (rowsRun gl s.cls 0 (trows S0)).1 (trows S1)
              have H2L := HLn.out (rowsRun gl s.cls (rowsRun gl s.cls 0 (trows S0)).1 (trows S1)).1 (trows S2)
              have H2I := HIn.out (rowsRun gl s.cls (rowsRun gl s.cls 0 (trows S0)).1 (trows S1)).1 (trows S2)
              have HRR := rRule_run gl s Hs.out HPL.out HS0.out HS1.out HS2.out
              clear hl0 hl1 hl2
              have HRRh := Lib.hid HRR
              clear HRR
              generalize hq0 : rowsRun gl s.cls 0 (trows S0) = y0 at *
              generalize hq1 : rowsRun gl s.cls y0.1 (trows S1) = y1 at *
              generalize hq2 : rowsRun gl s.cls y1.1 (trows S2) = y2 at *
              have Hq0 := Lib.hid hq0
              have Hq1 := Lib.hid hq1
              have Hq2 := Lib.hid hq2
              clear hq0 hq1 hq2
              have H3L := Lib.hid (And.intro H0L (And.intro H1L H2L))
              have H3I := Lib.hid (And.intro H0I (And.intro H1I H2I))
              clear H0L H1L H2L H0I H1I H2I HROW HA5 HA6 HA7 HO6 HO7 HO8 HF6 HF7 HF8 Hr5 Hr6 Hr7 HT5 HT6 HT7 Hb5 m0 m1 m2
              have hcal0 := Lib.hid (HRW0.out.sets (c := c6) HLE.out.1 H3L.out.1 H3I.out.1)
              go_wp2_with fail
              refine hcal0.out.mono ?_
              rintro e w9 ⟨v9, rfl, A9, c9, hs9, rfl, ho9, hf9, hb9⟩
              have hcal1 := Lib.hid ((HRW1.out.below hb9).sets (c := c7) HLE.out.2.1 H3L.out.2.1 H3I.out.2.1)
              go_wp2_with fail
              refine hcal1.out.mono ?_
              rintro e w10 ⟨v10, rfl, A10, c10, hs10, rfl, ho10, hf10, hb10⟩
              have hcal2 := Lib.hid (((HRW2.out.below hb9).below hb10).sets (c := c8) HLE.out.2.2 H3L.out.2.2 H3I.out.2.2)
              go_wp2_with fail
              refine hcal2.out.mono ?_
              rintro e w11 ⟨v11, rfl, A11, c11, hs11, rfl, ho11, hf11, hb11⟩
              have hab : ab = true := by
                cases ab with
                | true => rfl
                | false => rw [Bool.not_false, Bool.or_true] at hbad; cases hbad
              have hone : ¬ ((lk.kind = 1 ∨ lk.kind = 5) ∧ (trows S1).length ≠ 1) := by
                rintro ⟨g1, g2⟩
                have h1 : isOne lk.kind = true := by
                  unfold isOne
                  rcases g1 with g | g <;> rw [g] <;> rfl
                have h2 : ob = true := by rw [← HoB.out, h1]
                rw [trows_len] at g2
                rw [h2, hab] at hbad
                simp at hbad
                exact g2 hbad
              have hRR := HRRh.out hone (by rw [HarB.out, hab])
              have HRR2 : Hid (rRule gl s l = if endErr gl lk.kind y2.1 (txts r3) ≠ 0 then .error (endErr gl lk.kind y2.1 (txts r3)) else ruleEnd s lk.kind y1.2 (ruleOf gl lk.kind y0.2 y1.2 y2.2 (txts r3))) := by
                show _ = _
                first
                  | exact hRR
                  | (rw [Hq1.out, Hq2.out] at hRR; exact hRR)
                  | (subst_vars; exact hRR)
                  | (rw [← Hq2.out, ← Hq1.out]; exact hRR)
              have s8 := HB8.out.size
              have HB11 : Hid (Below w.heap.size w w11) := ((HB8.out.trans (hb9.mono s8)).trans (hb10.mono (Nat.le_trans s8 hb9.size))).trans (hb11.mono (Nat.le_trans s8 (Nat.le_trans hb9.size hb10.size)))
              have s11 := HB11.out.size
              have HT11 := Lib.hid (((HT8.out.below hb9).below hb10).below hb11)
              have HR11 := Lib.hid (((Hr8.out.below hb9).below hb10).below hb11)
              have HO9 := Lib.hid (own_below (own_below ho9 hb10) hb11)
              have HO10 := Lib.hid (own_below ho10 hb11)
              have HO11 := Lib.hid ho11
              have HF9 : Hid (Fl RowR 1 w11 (IB w8.heap.size w11) hs9 (y0.2.map setOf)) := (hf9.ib (only_of_below hb10 none) (fun g e => by cases e)).ib (only_of_below hb11 none) (fun g e => by cases e)
              have HF10 : Hid (Fl RowR 1 w11 (IB w9.heap.size w11) hs10 (y1.2.map setOf)) := hf10.ib (only_of_below hb11 none) (fun g e => by cases e)
              have HF11 := Lib.hid hf11
              have s9 := hb9.size
              have s10 := hb10.size
              have s11b := hb11.size
              have HRW1b := Lib.hid (((HRW1.out.below hb9).below hb10).below hb11)
              have hgm : gm < w.heap.size := HP.out.gmp.lt
              have hpp : p < w.heap.size := HP.out.par.lt
              have HAB : Hid (areOut lk.kind (txts r3) = true) := by show _ = _; rw [HarB.out, hab]
              have HS1L : Hid (ob = true → S1.length = 1) := fun e => by
                rw [e, hab] at hbad
                simpa using hbad
              clear hRR hone hb9 hb10 hb11 ho9 ho10 ho11 hf9 hf10 hf11 hcal0 hcal1 hcal2 HRW0 HRW2 hab hbad
              go_wp2_with fail
              obtain ⟨W12, hW12⟩ : ∃ W12, w11.alloc (.cells #[.slice A9 S0.length c9, .slice A10 S1.length c10, .slice A11 S2.length c11, .slice none 0 0, .slice none 0 0, .int .i64 0] tRule) = W12 := ⟨_, rfl⟩
              rw [hW12]
              have hba : Below w11.heap.size w11 W12 := hW12 ▸ (Below.refl _ _).alloc (Nat.le_refl _) _
              have HBA := Lib.hid hba
              have HC12 : Hid (Bk W12 w11.heap.size tRule #[.slice A9 S0.length c9, .slice A10 S1.length c10, .slice A11 S2.length c11, .slice none 0 0, .slice none 0 0, .int .i64 0]) := hW12 ▸ Bk.new _ _ _
              have HT12 := Lib.hid (HT11.out.below hba)
              have HR12 := Lib.hid (HR11.out.below hba)
              have HB12 : Hid (Below w.heap.size w W12) := HB11.out.trans (hba.mono s11)
              have n_kd : W12.cell? ⟨G', q, none⟩ = some (.int .i64 lk.kind) := cellBw hba (((bcell HB11.out).1 _ _ hpb).trans KQ0.out)
              have n_p3 : W12.cell? ⟨w1.heap.size, 3, none⟩ = some (.slice A3 k3 c3) := by
                obtain ⟨a, b, c, h⟩ := HT12.out.parts
                exact h.cell 3
              have s12 := hba.size
              have hCl := HC12.out.lt
              have HG12 := Lib.hid ((HP.out.below HB12.out).at.gm)
              have hout := Lib.hid (out_ok W12.drew w11.heap.size wc.heap.size p gm gl lk.kind y2.1 (.slice A9 S0.length c9) (.slice A10 S1.length c10) (.slice A11 S2.length c11) A3 k3 c3 r3 (by exact HC12.out) (by exact HR12.out) (HG12.out.below (Below.refl _ W12).drew) (by show p < W12.heap.size; omega) (by omega) (by omega) (by omega) (by omega) (by exact HT12.out.rd.below (Below.refl _ W12).drew) HL3.out hk39 HAB.out y0.2 y1.2 y2.2)
              have zq1 : w1.heap.size < w11.heap.size := by
                obtain ⟨a, b, c, h⟩ := HT11.out.parts
                exact h.lt
              have zq2 : w1.heap.size < wc.heap.size := by
                obtain ⟨a, b, c, h⟩ := HT4.out.parts
                exact h.lt
              clear hba hW12
              go_wp2_with fail
              try rw [hW12]
              go_region_held3 (fun w' => w'.cell? ⟨G', q, none⟩ = some (.int .i64 lk.kind) ∧ w'.cell? ⟨w1.heap.size, 3, none⟩ = some (.slice A3 k3 c3))
                (first
                  | exact ⟨n_kd, n_p3⟩
                  | exact ⟨n_kd13, n_p313⟩
                  | go_keep)
                (first
                  | (go_at_call 138; refine hout.out.mono ?_; rintro e w13 ⟨rfl, hor⟩; have n_kd13 : w13.cell? ⟨G', q, none⟩ = some (.int .i64 lk.kind) := (World.cell?_of_block (a := ⟨G', q, none⟩) (hor.two.block G' (by show G' < W12.heap.size; omega) (by omega) (by omega))).trans n_kd; have n_p313 : w13.cell? ⟨w1.heap.size, 3, none⟩ = some (.slice A3 k3 c3) := (World.cell?_of_block (a := ⟨w1.heap.size, 3, none⟩) (hor.two.block w1.heap.size (by show w1.heap.size < W12.heap.size; omega) (by omega) (by omega))).trans n_p3; have HOR := Lib.hid hor; clear hor))
              obtain ⟨⟨Ao, co, Ac, cc, hbk, hoo, hoc⟩, hrd, htw⟩ := HOR.out
              have hb13 : Below w.heap.size w w13 := Two.below (a := wc.heap.size) (b := w11.heap.size) (w := W12.drew) ⟨HB12.out.os, HB12.out.tape, HB12.out.output, HB12.out.size, HB12.out.block⟩ htw (by omega) (by omega)
              have k13 : w13.cell? ⟨wc.heap.size, 1, none⟩ = some (.int .i64 (endErr gl lk.kind y2.1 (txts r3))) := hrd.cell 1
              have zr13 : wc.heap.size < w13.heap.size := hrd.lt
              have HB13 := Lib.hid hb13
              have HBK := Lib.hid hbk
              have HOO := Lib.hid hoo
              have HOC := Lib.hid hoc
              have HRD13 := Lib.hid hrd
              have HTW := Lib.hid htw
              clear hb13 hbk hoo hoc hrd htw HOR
              generalize hge : endErr gl lk.kind y2.1 (txts r3) = er at *
              by_cases her : er = 0
              · subst her
                have HRR3 : Hid (rRule gl s l = ruleEnd s lk.kind y1.2 (ruleOf gl lk.kind y0.2 y1.2 y2.2 (txts r3))) := by show _ = _; rw [HRR2.out, if_neg (by simp)]
                clear hge
                cases ob with
                | false =>
                  have HRR4 : Hid (rRule gl s l = .ok (onLastL s fun x => { x with rules := x.rules ++ [ruleOf gl lk.kind y0.2 y1.2 y2.2 (txts r3)] })) := by
                    show _ = _
                    rw [HRR3.out]
                    unfold ruleEnd
                    have hno : ¬ (lk.kind = 1 ∨ lk.kind = 5) := by
                      intro g
                      have h9 := HoB.out
                      unfold isOne at h9
                      rcases g with g | g <;> rw [g] at h9 <;> cases h9
                    rw [if_neg hno]
                  have HPW := HP.out.below HB13.out
                  obtain ⟨A14, c14, hv⟩ := HPW.slice (i := 14) (by decide)
                  have hfew := HPW.few 14 (by decide)
                  have hown := HPW.live.own 14 (by decide)
                  rw [hv] at hown
                  have a_p : w13.cell? ⟨G', q + 2, none⟩ = some (.slice A14 (rv 14).n c14) := by rw [← hv]; exact ((bcell HB13.out).1 _ _ hpb).trans KQ2.out
                  have a_0 := HBK.out.cell 0
                  have a_1 := HBK.out.cell 1
                  have a_2 := HBK.out.cell 2
                  have a_3 := HBK.out.cell 3
                  have a_4 := HBK.out.cell 4
                  have a_5 := HBK.out.cell 5
                  simp only [List.getElem?_toArray, List.getElem?_cons_succ, List.getElem?_cons_zero] at a_0 a_1 a_2 a_3 a_4 a_5
                  have zp : G' < w13.heap.size := Nat.lt_of_lt_of_le hpb HB13.out.size
                  have zc := HBK.out.lt
                  obtain ⟨A5, c5, w15, hrun, ho9, hg9, hl9⟩ := run_push elRule 70 w13 Bd _ c14 A14 _ #[.slice A9 S0.length c9, .slice A10 S1.length c10, .slice A11 S2.length c11, .slice Ao (ruleOf gl lk.kind y0.2 y1.2 y2.2 (txts r3)).out.length co, .slice Ac (ruleOf gl lk.kind y0.2 y1.2 y2.2 (txts r3)).calls.length cc, .int .i64 (ruleOf gl lk.kind y0.2 y1.2 y2.2 (txts r3)).x] rfl hown (by simp [Value.oneCell']) (by omega) HPW.size
                  rw [← hv] at hg9 hl9
                  have hp9 : ∃ cur, Bk w15 G' 72 cur ∧ cur[q + 2]? = some (rv 14).v := by
                    obtain ⟨cur, hb9⟩ := Hgbk.out
                    have h1 : Bk w15 G' 72 cur := Bk.grown (hb9.keep (HB13.out.block G' hpb)) hg9 (HPW.live.own 14 (by decide)) (by decide)
                    exact ⟨cur, h1, by rw [← hb9.cell]; exact KQ2.out⟩
                  obtain ⟨cur9, hp9, hq9⟩ := hp9
                  have x9 : w15.cell? ⟨G', q + 2, none⟩ = some (rv 14).v := (hp9.cell _).trans hq9
                  have y9 := hp9.frozen (q + 2)
                  obtain ⟨io, ic, ix⟩ := ruleOf_i64 gl HP.out.glI lk.kind y0.2 y1.2 y2.2 (txts r3)
                  have hd12 := (Below.refl W12.heap.size W12).drew
                  have L0 : (y0.2.map setOf).length = S0.length := by rw [List.length_map]; exact HLl.out.1
                  have L1 : (y1.2.map setOf).length = S1.length := by rw [List.length_map]; exact HLl.out.2.1
                  have L2 : (y2.2.map setOf).length = S2.length := by rw [List.length_map]; exact HLl.out.2.2
                  have q9 := own_two HTW.out (by exact HR12.out) (by exact HC12.out) (by decide) (by decide) (own_below (own_below HO9.out HBA.out) hd12)
                  have q10 := own_two HTW.out (by exact HR12.out) (by exact HC12.out) (by decide) (by decide) (own_below (own_below HO10.out HBA.out) hd12)
                  have q11 := own_two HTW.out (by exact HR12.out) (by exact HC12.out) (by decide) (by decide) (own_below (own_below HO11.out HBA.out) hd12)
                  have f9 := ib_two HTW.out (by exact HR12.out) (by exact HC12.out) (by decide) (by decide) ((HF9.out.ib (only_of_below HBA.out none) (fun g e => by cases e)).ib (only_of_below hd12 none) (fun g e => by cases e))
                  have f10 := ib_two HTW.out (by exact HR12.out) (by exact HC12.out) (by decide) (by decide) ((HF10.out.ib (only_of_below HBA.out none) (fun g e => by cases e)).ib (only_of_below hd12 none) (fun g e => by cases e))
                  have f11 := ib_two HTW.out (by exact HR12.out) (by exact HC12.out) (by decide) (by decide) ((HF11.out.ib (only_of_below HBA.out none) (fun g e => by cases e)).ib (only_of_below hd12 none) (fun g e => by cases e))
                  rw [← L0] at q9
                  rw [← L1] at q10
                  rw [← L2] at q11
                  have hdr : W12.drew.heap.size = W12.heap.size := rfl
                  have hrel := rule_rel HP.out q9 f9 q10 f10 q11 f11 HOO.out HOC.out io ic ix (by omega) (by omega) (by omega) (by omega) (by omega) (by omega) (by omega) (by omega)
                  rw [L0, L1, L2] at hrel
                  have Hpush := Lib.hid (PSt.more_rule HPW Hs.out H0.out (y := ruleOf gl lk.kind y0.2 y1.2 y2.2 (txts r3)) (K' := K + n) hg9 ho9 hl9 (Fl.one (R := RuleR) hrel rfl) (by omega))
                  rw [← Hq.out] at Hpush
                  have HQ := Lib.hid (KQ.below (cm := cm) HB13.out)
                  have HLow := Lib.hid (HB13.out.mono hB)
                  have HRR5 : Hid (rRule gl s l = .ok { s with f := { s.f with lookups := init ++ [{ lk with rules := lk.rules ++ [ruleOf gl lk.kind y0.2 y1.2 y2.2 (txts r3)] }] } }) := by show _ = _; rw [HRR4.out, onLastL_eq s _ Hs.out]
                  clear hown ho9 hl9 hp9 hq9 q9 q10 q11 f9 f10 f11 hrel io ic ix L0 L1 L2 hdr hd12 hg9 HPW
                  go_wp2_with fail
                  go_region
                  all_goals
                    go_wp2
                    go_ret
                    obtain ⟨rv', g1, g2, g3⟩ := Hpush.out
                    exact StPost.good HRR5.out (HLow.out.trans g3) (HQ.out.trans g2) g1
                | true =>
                  have hs1 := HS1L.out rfl
                  obtain ⟨gg, hgg⟩ : ∃ gg, y1.2 = [gg] := by
                    have h9 := HLl.out.2.1
                    rw [hs1] at h9
                    match y1.2, h9 with
                    | [a], _ => exact ⟨a, rfl⟩
                  clear HS1L
                  generalize hyy : y1.2 = yy at *
                  generalize hmm : S1.length = m1 at *
                  subst hgg hs1
                  clear hyy hmm
                  have HRR4 : Hid (rRule gl s l = match sortOut gg (ruleOf gl lk.kind y0.2 [gg] y2.2 (txts r3)).out with
                      | .error e => .error e
                      | .ok o => .ok (onLastL s fun x => { x with rules := x.rules ++ [{ ruleOf gl lk.kind y0.2 [gg] y2.2 (txts r3) with out := o }] })) := by
                    show _ = _
                    rw [HRR3.out]
                    unfold ruleEnd
                    have hyes : lk.kind = 1 ∨ lk.kind = 5 := by
                      have h9 := HoB.out
                      unfold isOne at h9
                      simpa using h9
                    rw [if_pos hyes]
                    rfl
                  have hd12 := (Below.refl W12.heap.size W12).drew
                  have hw1 : RowsRd w6.heap.size A7 1 hs7 [gg] w13 := ⟨HTW.out.rdT (by exact HR12.out) (by exact HC12.out) (by decide) (by decide) ((HRW1b.out.rd.below HBA.out).below hd12), ib_two HTW.out (by exact HR12.out) (by exact HC12.out) (by decide) (by decide) ((HRW1b.out.fl.ib (only_of_below HBA.out none) (fun g e => by cases e)).ib (only_of_below hd12 none) (fun g e => by cases e))⟩
                  have q10 := own_two HTW.out (by exact HR12.out) (by exact HC12.out) (by decide) (by decide) (own_below (own_below HO10.out HBA.out) hd12)
                  have f10 := ib_two HTW.out (by exact HR12.out) (by exact HC12.out) (by decide) (by decide) ((HF10.out.ib (only_of_below HBA.out none) (fun g e => by cases e)).ib (only_of_below hd12 none) (fun g e => by cases e))
                  have hw2 := RowsRd.mk' q10 f10
                  obtain ⟨b1, o1, A20, c20, rfl, zb1, g1, R1⟩ := hw1.first (by omega)
                  obtain ⟨b2, o2, A21, c21, rfl, zb2, g2, R2⟩ := hw2.first (by omega)
                  have h1 := HBK.out.cell 1
                  have h3 := HBK.out.cell 3
                  have y3 := HBK.out.frozen 3
                  simp only [List.getElem?_toArray, List.getElem?_cons_succ, List.getElem?_cons_zero] at h1 h3
                  have zc := HBK.out.lt
                  have hk3 := HT12.out.rd.rd.len3
                  have hol : (ruleOf gl lk.kind y0.2 [gg] y2.2 (txts r3)).out.length ≤ 1000000000 := Nat.le_trans (ruleOf_len _ _ _ _ _ _) (by rw [txts_len, hk3]; exact hk39)
                  have hgl : gg.length ≤ 1000000000 := H3L.out.2.1 gg (by simp)
                  have hsl := Nat.le_trans (setOf_len gg) hgl
                  obtain ⟨io, ic, ix⟩ := ruleOf_i64 gl HP.out.glI lk.kind y0.2 [gg] y2.2 (txts r3)
                  have R3 : Rd w13 w13.heap.size Ao (ruleOf gl lk.kind y0.2 [gg] y2.2 (txts r3)).out.length 1 (cIs (ruleOf gl lk.kind y0.2 [gg] y2.2 (txts r3)).out) := (own_rdT HOO.out).rd
                  have hso := sortOut_ok w13.drew A20 A21 Ao _ _ _ c20 c21 co gg (setOf gg) (ruleOf gl lk.kind y0.2 [gg] y2.2 (txts r3)).out rfl (by exact R1) (by exact R2) (by exact R3) hgl hsl hol
                  have HIO := Lib.hid io
                  have HIC := Lib.hid ic
                  have HIX := Lib.hid ix
                  clear io ic ix R1 R2 R3 hol hgl hsl hk3 hw1 hw2 q10 f10
                  generalize hro : (ruleOf gl lk.kind y0.2 [gg] y2.2 (txts r3)).out = ro at *
                  have HRO := Lib.hid hro
                  clear hro
                  go_wp2_with fail
                  have HSZ := Lib.hid (And.intro s8 (And.intro s9 (And.intro s10 (And.intro s11 (And.intro s11b (And.intro s12 (And.intro hCl (And.intro hzr zr13))))))))
                  clear s8 s9 s10 s11b s12 hCl hzr zr13 z3 z4 z5 zG zP zq1 zq2 hgm hpp hs1 hnn hc kd4 n_kd n_p3 n_kd13 n_p313 k13
                  clear HT3 HT4 HB4 HB5 HB8 Hg6 Hg7 Hg8 HLn HIn HII HRRh Hr8 Hq0 Hq1 Hq2 HR11 HT8 HG12 HRW1 HRW1b hout HE HS0 HS1 HS2 HPL HRL Hrest HRD HDS HL Hb1 Hb3 HB3 H3I HAB HRR2 HRR3 HT11 HT12 HL3 hk39 HarB H3L HLE HRO HRD13 HoB HLR
                  have HSO := Lib.hid hso
                  have HD13 := Lib.hid (Below.refl w13.heap.size w13).drew
                  clear hso
                  go_cut [17] from 109 to 122 (fun s17 wx => ∃ w14 A30 n30 c30 code, s17 = .int .i64 code ∧ wx = w14.setCell ⟨w11.heap.size, 3, none⟩ (.slice A30 n30 c30) ∧ SortPost w13.drew (sortOut gg ro) (.returned (.tuple #[.slice A30 n30 c30, .int .i64 code])) w14)
                  case first =>
                    go_region_with (go_at_call 139; refine HSO.out.mono ?_; rintro e w14 hpost; obtain ⟨A30, n30, c30, code, rfl, hpost⟩ := hpost.shape; have hb14 := hpost.1; have b14 := HBK.out.keep (hb14.block _ zc); have x9 := (b14.cell 3).trans rfl; have y9 := b14.frozen 3; have HPO := Lib.hid hpost; clear hb14 b14 hpost)
                    all_goals
                      go_wp2_with fail
                      go_meet
                      exact ⟨w14, A30, n30, c30, code, rfl, rfl, HPO.out⟩
                  case rest =>
                  obtain ⟨w14, A30, n30, c30, code, rfl, rfl, hpost⟩ := hcut
                  have b14 : Bk w14 w11.heap.size tRule #[.slice A9 S0.length c9, .slice (some ⟨b2, o2, none⟩) 1 c10, .slice A11 S2.length c11, .slice Ao ro.length co, .slice Ac (ruleOf gl lk.kind y0.2 [gg] y2.2 (txts r3)).calls.length cc, .int .i64 (ruleOf gl lk.kind y0.2 [gg] y2.2 (txts r3)).x] := HBK.out.keep (hpost.1.block _ zc)
                  have HBK14 := Lib.hid b14
                  have HB14 := Lib.hid hpost.1
                  clear b14 g1 g2 h1 h3 y3
                  cases hsort : sortOut gg ro with
                  | error e9 =>
                    rw [hsort] at hpost
                    have he9 : (code != 0) = true := by
                      have := hpost.2
                      simp only [Ending.returned.injEq, Value.tuple.injEq] at this
                      simp only [Array.mk.injEq, List.cons.injEq, Value.int.injEq, true_and, and_true] at this
                      have h9 : code = e9 := this.2
                      subst h9
                      rcases sortOut_err hsort with rfl | rfl <;> rfl
                    have hce : code = e9 := by
                      have := hpost.2
                      simp only [Ending.returned.injEq, Value.tuple.injEq, Array.mk.injEq, List.cons.injEq, Value.int.injEq, true_and, and_true] at this
                      exact this.2
                    have HRR5 : Hid (rRule gl s l = .error code) := by show _ = _; rw [HRR4.out, hsort, hce]
                    clear hpost hsort hce
                    go_wp2_with fail
                    go_ret
                    exact StPost.bad HRR5.out (((HB13.out.trans (HD13.out.mono HB13.out.size)).trans (HB14.out.mono HB13.out.size)).setCell (by obtain ⟨s8, s9, s10, s11, -⟩ := HSZ.out; omega) _ |>.mono hB)
                  | ok o9 =>
                    rw [hsort] at hpost
                    obtain ⟨A31, c31, e31, ho14⟩ := hpost.2
                    have h31 : A30 = A31 ∧ n30 = o9.length ∧ c30 = c31 ∧ code = 0 := by
                      simp only [Ending.returned.injEq, Value.tuple.injEq] at e31
                      simpa [and_assoc] using e31
                    obtain ⟨rfl, rfl, rfl, rfl⟩ := h31
                    have HO14 := Lib.hid ho14
                    have HIO9 := Lib.hid (sortOut_i64 hsort HIO.out)
                    have HRR5 : Hid (rRule gl s l = .ok { s with f := { s.f with lookups := init ++ [{ lk with rules := lk.rules ++ [{ ruleOf gl lk.kind y0.2 [gg] y2.2 (txts r3) with out := o9 }] }] } }) := by
                      show _ = _
                      rw [HRR4.out, hsort]
                      simp only
                      rw [onLastL_eq s _ Hs.out]
                    have hbk15 : Bk (w14.setCell ⟨w11.heap.size, 3, none⟩ (.slice A30 o9.length c30)) w11.heap.size tRule #[.slice A9 S0.length c9, .slice (some ⟨b2, o2, none⟩) 1 c10, .slice A11 S2.length c11, .slice A30 o9.length c30, .slice Ac (ruleOf gl lk.kind y0.2 [gg] y2.2 (txts r3)).calls.length cc, .int .i64 (ruleOf gl lk.kind y0.2 [gg] y2.2 (txts r3)).x] := HBK14.out.set 3 _
                    have hg15 : w13.grownBy (w14.setCell ⟨w11.heap.size, 3, none⟩ (.slice A30 o9.length c30)) (some w11.heap.size) := grown_tr (only_of_below HD13.out _) (grown_tr (only_of_below HB14.out _) (grown_set w14 _ _))
                    have ho15 := HO14.out.kept (grown_set w14 ⟨w11.heap.size, 3, none⟩ (.slice A30 o9.length c30)) (own_ne_bk HO14.out HBK14.out (by decide))
                    have hb15 : Below w.heap.size w (w14.setCell ⟨w11.heap.size, 3, none⟩ (.slice A30 o9.length c30)) := ((HB13.out.trans (HD13.out.mono HB13.out.size)).trans (HB14.out.mono HB13.out.size)).setCell (by obtain ⟨s8, s9, s10, s11, -⟩ := HSZ.out; omega) _
                    clear hpost hsort e31 ho14
                    obtain ⟨w15, hw15⟩ : ∃ x, (w14.setCell ⟨w11.heap.size, 3, none⟩ (.slice A30 o9.length c30)) = x := ⟨_, rfl⟩
                    rw [hw15] at hbk15 hg15 ho15 hb15 ⊢
                    clear hw15
                    have HBK15 := Lib.hid hbk15
                    have HB15 := Lib.hid hb15
                    have HPW := HP.out.below HB15.out
                    obtain ⟨A14, c14, hv⟩ := HPW.slice (i := 14) (by decide)
                    have hfew := HPW.few 14 (by decide)
                    have hown := HPW.live.own 14 (by decide)
                    rw [hv] at hown
                    have a_p : w15.cell? ⟨G', q + 2, none⟩ = some (.slice A14 (rv 14).n c14) := by rw [← hv]; exact ((bcell HB15.out).1 _ _ hpb).trans KQ2.out
                    have a_0 := HBK15.out.cell 0
                    have a_1 := HBK15.out.cell 1
                    have a_2 := HBK15.out.cell 2
                    have a_3 := HBK15.out.cell 3
                    have a_4 := HBK15.out.cell 4
                    have a_5 := HBK15.out.cell 5
                    simp only [List.getElem?_toArray, List.getElem?_cons_succ, List.getElem?_cons_zero] at a_0 a_1 a_2 a_3 a_4 a_5
                    have zp : G' < w15.heap.size := Nat.lt_of_lt_of_le hpb HB15.out.size
                    have zc15 := HBK15.out.lt
                    obtain ⟨A5, c5, w16, hrun, ho9, hg9, hl9⟩ := run_push elRule 70 w15 Bd _ c14 A14 _ #[.slice A9 S0.length c9, .slice (some ⟨b2, o2, none⟩) 1 c10, .slice A11 S2.length c11, .slice A30 o9.length c30, .slice Ac (ruleOf gl lk.kind y0.2 [gg] y2.2 (txts r3)).calls.length cc, .int .i64 (ruleOf gl lk.kind y0.2 [gg] y2.2 (txts r3)).x] rfl hown (by simp [Value.oneCell']) (by omega) HPW.size
                    rw [← hv] at hg9 hl9
                    have hp9 : ∃ cur, Bk w16 G' 72 cur ∧ cur[q + 2]? = some (rv 14).v := by
                      obtain ⟨cur, hb9⟩ := Hgbk.out
                      have h1 : Bk w16 G' 72 cur := Bk.grown (hb9.keep (HB15.out.block G' hpb)) hg9 (HPW.live.own 14 (by decide)) (by decide)
                      exact ⟨cur, h1, by rw [← hb9.cell]; exact KQ2.out⟩
                    obtain ⟨cur9, hp9, hq9⟩ := hp9
                    have x9 : w16.cell? ⟨G', q + 2, none⟩ = some (rv 14).v := (hp9.cell _).trans hq9
                    have y9 := hp9.frozen (q + 2)
                    have L0 : (y0.2.map setOf).length = S0.length := by rw [List.length_map]; exact HLl.out.1
                    have L1 : ([gg].map setOf).length = 1 := by rw [List.length_map]; exact HLl.out.2.1
                    have L2 : (y2.2.map setOf).length = S2.length := by rw [List.length_map]; exact HLl.out.2.2
                    have q9 := own_two HTW.out (by exact HR12.out) (by exact HC12.out) (by decide) (by decide) (own_below (own_below HO9.out HBA.out) hd12)
                    have q10 := own_two HTW.out (by exact HR12.out) (by exact HC12.out) (by decide) (by decide) (own_below (own_below HO10.out HBA.out) hd12)
                    have q11 := own_two HTW.out (by exact HR12.out) (by exact HC12.out) (by decide) (by decide) (own_below (own_below HO11.out HBA.out) hd12)
                    have f9 := ib_two HTW.out (by exact HR12.out) (by exact HC12.out) (by decide) (by decide) ((HF9.out.ib (only_of_below HBA.out none) (fun g e => by cases e)).ib (only_of_below hd12 none) (fun g e => by cases e))
                    have f10 := ib_two HTW.out (by exact HR12.out) (by exact HC12.out) (by decide) (by decide) ((HF10.out.ib (only_of_below HBA.out none) (fun g e => by cases e)).ib (only_of_below hd12 none) (fun g e => by cases e))
                    have f11 := ib_two HTW.out (by exact HR12.out) (by exact HC12.out) (by decide) (by decide) ((HF11.out.ib (only_of_below HBA.out none) (fun g e => by cases e)).ib (only_of_below hd12 none) (fun g e => by cases e))
                    rw [← L0] at q9
                    rw [← L1] at q10
                    rw [← L2] at q11
                    have q9' := q9.kept hg15 (own_ne_bk q9 HBK.out (by decide))
                    have q10' := q10.kept hg15 (own_ne_bk q10 HBK.out (by decide))
                    have q11' := q11.kept hg15 (own_ne_bk q11 HBK.out (by decide))
                    have f9' := f9.ib hg15 (fun g e => by cases e; exact ⟨_, _, HBK.out, by decide⟩)
                    have f10' := f10.ib hg15 (fun g e => by cases e; exact ⟨_, _, HBK.out, by decide⟩)
                    have f11' := f11.ib hg15 (fun g e => by cases e; exact ⟨_, _, HBK.out, by decide⟩)
                    have qc' := HOC.out.kept hg15 (own_ne_bk HOC.out HBK.out (by decide))
                    have hdr : W12.drew.heap.size = W12.heap.size := rfl
                    have hdr13 : w13.drew.heap.size = w13.heap.size := rfl
                    have hs13 := HB13.out.size
                    obtain ⟨s8, s9, s10, -, s11b, s12, hCl, hzr, zr13⟩ := HSZ.out
                    have hrel := rule_rel HP.out q9' f9' q10' f10' q11' f11' ho15 qc' HIO9.out HIC.out HIX.out (by omega) (by omega) (by omega) (by omega) (by omega) (by omega) (by omega) (by omega)
                    rw [L0, L1, L2] at hrel
                    have Hpush := Lib.hid (PSt.more_rule HPW Hs.out H0.out (y := { ruleOf gl lk.kind y0.2 [gg] y2.2 (txts r3) with out := o9 }) (K' := K + n) hg9 ho9 hl9 (Fl.one (R := RuleR) hrel rfl) (by omega))
                    rw [← Hq.out] at Hpush
                    have HQ := Lib.hid (KQ.below (cm := cm) HB15.out)
                    have HLow := Lib.hid (HB15.out.mono hB)
                    clear s8 s9 s10 s11b s12 hCl hzr zr13 hown ho9 hl9 hp9 hq9 q9 q10 q11 f9 f10 f11 q9' q10' q11' f9' f10' f11' qc' ho15 hbk15 hb15 hg15 hrel L0 L1 L2 hdr hdr13 hs13 hg9 HPW
                    go_wp2_with fail
                    go_region
                    all_goals
                      go_wp2
                      go_ret
                      obtain ⟨rv', g1, g2, g3⟩ := Hpush.out
                      exact StPost.good HRR5.out (HLow.out.trans g3) (HQ.out.trans g2) g1
              · have HR : Hid (rRule gl s l = .error er) := by show _ = _; rw [HRR2.out, if_pos her]
                have e1 : (er == 0) = false := by simpa using her
                have e2 : (er != 0) = true := by simpa using her
                clear hge her
                go_wp2_with fail
                go_ret
                exact StPost.bad HR.out (HB13.out.mono hB)
end Go.Proofs.YtkijckccfookeaaGreatDoor
