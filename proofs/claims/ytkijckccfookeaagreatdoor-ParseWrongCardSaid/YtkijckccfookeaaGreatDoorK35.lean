/- parse: how long a rule's rows are; rows that stand while the reader is written. -/
import Derived.Test.YtkijckccfookeaaGreatDoorK34
import Derived.Test.YtkijckccfookeaaGreatDoorProg
import Derived.BigQuiet
namespace Go.Proofs.YtkijckccfookeaaGreatDoor
open Go.RowKit

theorem rowsRun_all (gl : Gl) (cls : List (B × List Int)) (Q : List Int → Prop) (hQ : ∀ er l, Q (setRun gl cls er [] l).2) (er : Int) (l : List (List B)) : ∀ r ∈ (rowsRun gl cls er l).2, Q r := by
  suffices h : ∀ q : Int × List (List Int), (∀ r ∈ q.2, Q r) → ∀ r ∈ (l.foldl (fun q x => ((setRun gl cls q.1 [] x).1, q.2 ++ [(setRun gl cls q.1 [] x).2])) q).2, Q r from h (er, []) (fun r hr => by simp at hr)
  induction l with
  | nil => intro q hq; exact hq
  | cons x r ih =>
    intro q hq
    rw [List.foldl_cons]
    refine ih _ fun y hy => ?_
    rcases List.mem_append.1 hy with g | g
    · exact hq y g
    · simp only [List.mem_singleton] at g
      subst g
      exact hQ _ _
theorem run_len (gl : Gl) (cls : List (B × List Int)) (hc : ∀ t l, cls.lookup t = some l → l.length ≤ 2000) (er : Int) (acc : List Int) (ha : acc.length ≤ 1000) (l : List B) : (setRun gl cls er acc l).2.length ≤ 3001 := by
  have hw : ∀ er acc t, acc.length ≤ 1000 → (setWd gl cls er acc t).2.length ≤ 3001 := by
    intro er acc t ha
    unfold setWd
    split
    · split
      · rename_i c hcl
        have := hc _ _ hcl
        show (acc ++ c).length ≤ _
        rw [List.length_append]
        omega
      · show acc.length ≤ _
        omega
    · show (acc ++ [_]).length ≤ _
      rw [List.length_append, List.length_singleton]
      omega
  induction l generalizing er acc with
  | nil => exact Nat.le_trans ha (by omega)
  | cons t r ih =>
    rw [setRun]
    split
    · exact hw er acc t ha
    · split
      · exact hw er acc t ha
      · rename_i h1 h2
        exact ih _ _ (by omega)
theorem PSt.clsL {w : World} {Bd p gm cm : Nat} {gl : Gl} {s : PS} {rv : Rows} {K : Nat} (h : PSt w Bd p gm cm gl s rv K) : ∀ t l, s.cls.lookup t = some l → l.length ≤ 2000 := by
  intro t l hl
  obtain ⟨f, h1, h2⟩ := h.cls
  rcases h2 t with ⟨g, _⟩ | ⟨l', A, c, e1, e2, e3, e4⟩
  · rw [g] at hl; cases hl
  · rw [e1] at hl
    cases hl
    exact e4
/-- rows that stand: read, below what comes -/
structure RowsRd (base : Nat) (A : Option Addr) (n : Nat) (hs : List Value) (xs : List (List Int)) (w : World) : Prop where
  rd : RdT w 22 A n 1 hs
  fl : Fl RowR 1 w (IB base w) hs xs
theorem RowsRd.mk' {w : World} {b2 base : Nat} {A : Option Addr} {n c : Nat} {hs : List Value} {xs : List (List Int)} (ho : w.ownsRow b2 22 1 (.slice A n c) n hs) (hf : Fl RowR 1 w (IB base w) hs xs) : RowsRd base A n hs xs w := ⟨own_rdT ho, hf⟩
theorem RowsRd.reader {base : Nat} {A : Option Addr} {n : Nat} {hs : List Value} {xs : List (List Int)} {w w' : World} {rb p : Nat} {er : Int} (h : RowsRd base A n hs xs w) (hr : Rdr w rb p er) (hg : w.grownBy w' (some rb)) : RowsRd base A n hs xs w' :=
  ⟨h.rd.grown hg (fun g e => by cases e; exact ⟨_, _, hr, by decide⟩), h.fl.ib hg (fun g e => by cases e; exact ⟨_, _, hr, by decide⟩)⟩
theorem RowsRd.below {base : Nat} {A : Option Addr} {n : Nat} {hs : List Value} {xs : List (List Int)} {w w' : World} (h : RowsRd base A n hs xs w) (hb : Below w.heap.size w w') : RowsRd base A n hs xs w' :=
  ⟨h.rd.below hb, h.fl.ib (only_of_below hb none) (fun g e => by cases e)⟩
theorem RowsRd.sets {base : Nat} {A : Option Addr} {n c : Nat} {hs : List Value} {xs : List (List Int)} {w : World} (h : RowsRd base A n hs xs w) (hn : n ≤ 1000000000) (hl : ∀ r ∈ xs, r.length ≤ 1000000000) (hI : ∀ r ∈ xs, ∀ x ∈ r, I64 x) :
    Calls Tryz.prog 137 #[.slice A n c] w fun e w' => ∃ v, e = .returned v ∧ SetsSt w n (xs.map setOf) v w' :=
  setsOf_ok w A n c xs hs h.rd h.fl (fun b hb => by obtain ⟨-, cur, hk⟩ := hb; exact hk.lt) hn hl hI
/-- .. a first row of them -/
theorem RowsRd.first {base : Nat} {A : Option Addr} {n : Nat} {hs : List Value} {x : List Int} {xs : List (List Int)} {w : World} (h : RowsRd base A n hs (x :: xs) w) (hn : 0 < n) : ∃ b o A' c', A = some ⟨b, o, none⟩ ∧ b < w.heap.size ∧ w.cell? ⟨b, o, none⟩ = some (.slice A' x.length c') ∧ Rd w w.heap.size A' x.length 1 (cIs x) := by
  obtain ⟨b, o, cur, e, hb, hc⟩ := h.rd.2 hn
  obtain ⟨A', c', h0, hsl⟩ := row_get h.fl (k := 0) (r := x) rfl
  exact ⟨b, o, A', c', e, hb.lt, (hb.cell o).trans (hc 0 _ h0), sl_rd hsl (fun b hb => by obtain ⟨-, cur, hk⟩ := hb; exact hk.lt)⟩
/-- blocks of ints behind all that the parser writes on are none of its rows' -/
theorem PSt.ib {w w2 : World} {Bd p gm cm : Nat} {gl : Gl} {s : PS} {rv : Rows} {K : Nat} (h : PSt w Bd p gm cm gl s rv K) {base : Nat} (hb : w.heap.size ≤ base) : ∀ g, IB base w2 g → Fz w2 rv g := by
  rintro g ⟨h1, cur, hk⟩
  refine ⟨cur, _, hk, by decide, fun j hj e' => ?_⟩
  have := ((h.live.own j hj).lt g e').2
  omega
end Go.Proofs.YtkijckccfookeaaGreatDoor
/- parse: the words at a rule's end, of any kind. -/
namespace Go.Proofs.YtkijckccfookeaaGreatDoor
open Go.RowKit

theorem out_ok (w : World) (C rb p gm : Nat) (gl : Gl) (kind err : Int) (v0 v1 v2 : Value) (A : Option Addr) (n c : Nat) (ws : List P3) (hC : Bk w C tRule #[v0, v1, v2, .slice none 0 0, .slice none 0 0, .int .i64 0]) (hR : Rdr w rb p err) (hG : GmAt w p gm gl)
    (hp : p < w.heap.size) (p1 : p ≠ rb) (p2 : p ≠ C) (p3 : gm ≠ rb) (p4 : gm ≠ C) (hw : RdT w tWd A n 3 (c3s ws)) (hl : ∀ x ∈ ws, x.2.2.length ≤ 1000000) (hn : n ≤ 1000000000) (hok : areOut kind (txts ws) = true) (b i a : List (List Int)) :
    Calls Tryz.prog 138 #[.pointer (some ⟨rb, 0, none⟩), .int .i64 kind, .slice A n c, .pointer (some ⟨C, 0, none⟩)] w fun e w' => e = .returned (.tuple #[]) ∧ OutR w C rb p v0 v1 v2 (endErr gl kind err (txts ws)) (ruleOf gl kind b i a (txts ws)).out (ruleOf gl kind b i a (txts ws)).calls (ruleOf gl kind b i a (txts ws)).x w' := by
  unfold ruleOf endErr
  simp only
  by_cases h1 : kind = 1 ∨ kind = 2 ∨ kind = 3 ∨ kind = 5
  · rw [if_pos h1, if_pos h1, if_neg (by omega), if_neg (by omega)]
    exact out_plain w C rb p gm gl kind err v0 v1 v2 A n c ws h1 hC hR hG hp p1 p2 p3 p4 hw hn
  · rw [if_neg h1, if_neg h1]
    by_cases h4 : kind = 4
    · rw [if_pos h4, if_pos h4, if_neg (by omega)]
      subst h4
      exact out_chain w C rb p err v0 v1 v2 A n c ws hC hR hw hl hn
    · rw [if_neg h4, if_neg h4]
      by_cases h6 : kind = 6
      · rw [if_pos h6, if_pos h6]
        unfold areOut at hok
        rw [if_neg h4, if_pos h6] at hok
        obtain ⟨t, ht⟩ : ∃ t, txts ws = [t] := by
          match txts ws, hok with
          | [t], _ => exact ⟨t, rfl⟩
        subst h6
        rw [ht]
        exact out_pair w C rb p err v0 v1 v2 A n c ws hC hR hw hl ht
      · rw [if_neg h6, if_neg h6]
        exact out_none w C rb p kind err v0 v1 v2 A n c hC hR (by omega)
end Go.Proofs.YtkijckccfookeaaGreatDoor
/- parse: a rule in memory. -/
namespace Go.Proofs.YtkijckccfookeaaGreatDoor
open Go.RowKit

theorem own_two {w w' : World} {a b : Nat} (ht : Two w w' a b) {ta tb e : TypeId} {ca cb : Array Value} (ha : Bk w a ta ca) (hb : Bk w b tb cb) (n1 : e ≠ ta) (n2 : e ≠ tb) {base size n : Nat} {v : Value} {xs : List Value} (h : w.ownsRow base e size v n xs) : w'.ownsRow base e size v n xs := by
  refine ⟨h.1, ?_⟩
  rcases h.2 with h0 | ⟨g, cap, cur, rfl, hg, hh, rest⟩
  · exact .inl h0
  · refine .inr ⟨g, cap, cur, rfl, hg, (ht.block g (Array.getElem?_eq_some_iff.1 hh).1 (fun e' => ?_) (fun e' => ?_)).trans hh, rest⟩
    · subst e'; exact n1 (bk_one hh ha).1
    · subst e'; exact n2 (bk_one hh hb).1
theorem ib_two {w w' : World} {a b : Nat} (ht : Two w w' a b) {ta tb : TypeId} {ca cb : Array Value} (ha : Bk w a ta ca) (hb : Bk w b tb cb) (n1 : 3 ≠ ta) (n2 : 3 ≠ tb) {base : Nat} {hs : List Value} {xs : List (List Int)} (h : Fl RowR 1 w (IB base w) hs xs) : Fl RowR 1 w' (IB base w') hs xs := by
  have hsame : Same (IB base w) w w' := fun g ⟨_, cur, hk⟩ => ht.block g hk.lt (fun e' => by subst e'; exact n1 (bk_one hk ha).1) (fun e' => by subst e'; exact n2 (bk_one hk hb).1)
  exact (h.keep RowR.ok hsame).mono RowR.ok fun g hg => ⟨hg.1, by obtain ⟨cur, hk⟩ := hg.2; exact ⟨cur, hk.keep (hsame g hg)⟩⟩
section
variable {w W : World} {Bd p gm cm : Nat} {gl : Gl} {s : PS} {rv : Rows} {K : Nat}
theorem rows_sl (h : PSt w Bd p gm cm gl s rv K) {A : Option Addr} {n c b2 base : Nat} {hs : List Value} {xs : List (List Int)} (ho : W.ownsRow b2 22 1 (.slice A n c) n hs) (hf : Fl RowR 1 W (IB base W) hs xs) (hb : w.heap.size ≤ b2) (hb2 : w.heap.size ≤ base) : Sl RowR 1 W (Fz W rv) A xs :=
  Sl.of_own' ho (hf.mono RowR.ok (h.ib hb2)) (h.fresh ho hb (by decide)) (by decide)
theorem call_fl (W : World) (S : Bs) (l : List Call) (h : ∀ x ∈ l, I64 x.at' ∧ I64 x.lookup) : Fl CallR 2 W S (callC l) l := by
  induction l with
  | nil => exact Fl.nil
  | cons x r ih =>
    obtain ⟨h1, h2⟩ := h x (by simp)
    exact (Fl.one (R := CallR) ⟨rfl, h1, h2⟩ rfl).append (ih (fun y hy => h y (by simp [hy])))
theorem rule_rel (h : PSt w Bd p gm cm gl s rv K) {A0 A1 A2 Ao Ac : Option Addr} {c0 c1 c2 co cc b0 b1 b2 bo bc e0 e1 e2 : Nat} {h0 h1 h2 : List Value} {s0 s1 s2 : List (List Int)} {out : List Int} {calls : List Call} {x : Int}
    (o0 : W.ownsRow b0 22 1 (.slice A0 s0.length c0) s0.length h0) (f0 : Fl RowR 1 W (IB e0 W) h0 s0) (o1 : W.ownsRow b1 22 1 (.slice A1 s1.length c1) s1.length h1) (f1 : Fl RowR 1 W (IB e1 W) h1 s1) (o2 : W.ownsRow b2 22 1 (.slice A2 s2.length c2) s2.length h2) (f2 : Fl RowR 1 W (IB e2 W) h2 s2)
    (oo : W.ownsRow bo 3 1 (.slice Ao out.length co) out.length (cIs out)) (oc : W.ownsRow bc 95 2 (.slice Ac calls.length cc) calls.length (callC calls)) (io : ∀ y ∈ out, I64 y) (ic : ∀ y ∈ calls, I64 y.at' ∧ I64 y.lookup) (ix : I64 x)
    (l0 : w.heap.size ≤ b0) (l1 : w.heap.size ≤ b1) (l2 : w.heap.size ≤ b2) (lo : w.heap.size ≤ bo) (lc : w.heap.size ≤ bc) (m0 : w.heap.size ≤ e0) (m1 : w.heap.size ≤ e1) (m2 : w.heap.size ≤ e2) :
    RuleR W (Fz W rv) [.slice A0 s0.length c0, .slice A1 s1.length c1, .slice A2 s2.length c2, .slice Ao out.length co, .slice Ac calls.length cc, .int .i64 x] ⟨s0, s1, s2, out, calls, x⟩ :=
  ⟨A0, c0, A1, c1, A2, c2, Ao, co, Ac, cc, rfl, ix, rows_sl h o0 f0 l0 m0, rows_sl h o1 f1 l1 m1, rows_sl h o2 f2 l2 m2, Sl.of_own' oo (int_fl _ _ _ io) (h.fresh oo lo (by decide)) (by decide), Sl.of_own' oc (call_fl _ _ _ ic) (h.fresh oc lc (by decide)) (by decide)⟩
end
end Go.Proofs.YtkijckccfookeaaGreatDoor
/- A region that draws its order, and whose callees may make new blocks: ONE walk, in the text's order, in a class of worlds. -/
namespace Go.Proofs.YtkijckccfookeaaGreatDoor
open Go.RowKit

/-- a world of a class -/
structure WIn (S : World → Prop) where
  w : World
  ok : S w
theorem wp_region_in {P : Program} {id : Nat} {Q : Exit → Act → World → Prop} {a : Act} {w : World} {l : List Oper} (S : World → Prop) (hm : P.follows .mixedOrders = true) (hB : Region.lexB .any l.toArray = true) (hS : S { w with drawn := w.drawn + 1 })
    (h : wpQuiet P l.toArray (fun w' => ∃ x : WIn S, w' = x.w) (fun a' => ∀ w', (∃ x : WIn S, w' = x.w) → Q .normal a' w') l a) : (Code.region id l.toArray true).wp P Q a w :=
  wp_region_quiet (C := fun w' => ∃ x : WIn S, w' = x.w) hm hB ⟨⟨_, hS⟩, rfl⟩ h
end Go.Proofs.YtkijckccfookeaaGreatDoor
