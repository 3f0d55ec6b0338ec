/- parse: a rule's rows, their sets. -/
import Derived.Test.YtkijckccfookeaaGreatDoorK24
namespace Go.Proofs.YtkijckccfookeaaGreatDoor
open Go.RowKit

/-- the rows of texts, one by one; the first error stays -/
def rowsRun (gl : Gl) (cls : List (B × List Int)) (er : Int) (l : List (List B)) : Int × List (List Int) := l.foldl (fun q x => ((setRun gl cls q.1 [] x).1, q.2 ++ [(setRun gl cls q.1 [] x).2])) (er, [])
theorem rowsRun_snoc (gl : Gl) (cls : List (B × List Int)) (er : Int) (l : List (List B)) (x : List B) : rowsRun gl cls er (l ++ [x]) = ((setRun gl cls (rowsRun gl cls er l).1 [] x).1, (rowsRun gl cls er l).2 ++ [(setRun gl cls (rowsRun gl cls er l).1 [] x).2]) := by
  unfold rowsRun
  rw [List.foldl_append]
  rfl
theorem rowsRun_len (gl : Gl) (cls : List (B × List Int)) (er : Int) (l : List (List B)) : (rowsRun gl cls er l).2.length = l.length := by
  suffices h : ∀ q : Int × List (List Int), (l.foldl (fun q x => ((setRun gl cls q.1 [] x).1, q.2 ++ [(setRun gl cls q.1 [] x).2])) q).2.length = q.2.length + l.length by
    have := h (er, [])
    simpa [rowsRun] using this
  induction l with
  | nil => intro q; rfl
  | cons x r ih =>
    intro q
    rw [List.foldl_cons, ih]
    simp
    omega
/-- blocks of whole numbers that lie behind a place -/
def IB (base : Nat) (w : World) : Bs := fun g => base ≤ g ∧ ∃ cur, Bk w g 3 cur
theorem IB.keep {base : Nat} {w w' : World} {row : Option Nat} (hg : w.grownBy w' row) (hr : ∀ g, row = some g → ∃ t cur, Bk w g t cur ∧ t ≠ 3) : Same (IB base w) w w' ∧ ∀ g, IB base w g → IB base w' g := by
  have h : Same (IB base w) w w' := fun b ⟨_, cur, hb⟩ => hg.block b hb.lt fun e => by
    obtain ⟨t, cur', h1, h2⟩ := hr b e.symm
    exact h2 (bk_one h1 hb).1
  exact ⟨h, fun g hg' => ⟨hg'.1, by obtain ⟨cur, hb⟩ := hg'.2; exact ⟨cur, hb.keep (h g hg')⟩⟩⟩
theorem Fl.ib {base : Nat} {w w' : World} {row : Option Nat} {cs : List Value} {xs : List (List Int)} (h : Fl RowR 1 w (IB base w) cs xs) (hg : w.grownBy w' row) (hr : ∀ g, row = some g → ∃ t cur, Bk w g t cur ∧ t ≠ 3) : Fl RowR 1 w' (IB base w') cs xs :=
  (h.keep RowR.ok (IB.keep hg hr).1).mono RowR.ok (IB.keep hg hr).2
theorem own_row {w : World} {base b2 : Nat} {l : List Int} {A : Option Addr} {c : Nat} (ho : w.ownsRow b2 3 1 (.slice A l.length c) l.length (cIs l)) (hI : ∀ x ∈ l, I64 x) (hb : base ≤ b2) : RowR w (IB base w) [.slice A l.length c] l := by
  refine ⟨A, c, rfl, Sl.of_own' ho (int_fl w (IB base w) l hI) (fun g hg => ?_) (by decide)⟩
  obtain ⟨cur, hk⟩ := ownBlock_bk ho hg
  exact ⟨Nat.le_trans hb (ho.lt g hg).1, cur, hk⟩
/-- between two rounds -/
def RowsSt (w : World) (rb p : Nat) (er : Int) (n : Nat) (rows : List (List Int)) (v : Value) (wr : World) : Prop :=
  ∃ A c hs, v = .slice A n c ∧ wr.ownsRow w.heap.size 22 1 (.slice A n c) n hs ∧ Fl RowR 1 wr (IB w.heap.size wr) hs rows ∧ Rdr wr rb p er ∧ w.grownBy wr (some rb)
theorem RowsSt.next {w wr w1 w2 : World} {rb p : Nat} {er er' : Int} {n : Nat} {rows : List (List Int)} {l : List Int} {A A5 A6 : Option Addr} {c c5 c6 : Nat} {hs : List Value} (h1 : wr.ownsRow w.heap.size 22 1 (.slice A n c) n hs) (h2 : Fl RowR 1 wr (IB w.heap.size wr) hs rows) (h3 : Rdr wr rb p er) (h4 : w.grownBy wr (some rb))
    (k1 : w1.ownsRow wr.heap.size 3 1 (.slice A5 l.length c5) l.length (cIs l)) (hI : ∀ x ∈ l, I64 x) (k2 : Rdr w1 rb p er') (k3 : wr.grownBy w1 (some rb)) (m1 : w2.ownsRow w.heap.size 22 1 (.slice A6 (n + 1) c6) (n + 1) (hs ++ [.slice A5 l.length c5])) (m2 : w1.grownBy w2 (Value.slice A n c).ownBlock) :
    RowsSt w rb p er' (n + 1) (rows ++ [l]) (.slice A6 (n + 1) c6) w2 := by
  have o1 := h1.kept k3 (own_ne_bk h1 h3 (by decide))
  have hne : ∀ g, (Value.slice A n c).ownBlock = some g → ∃ t cur, Bk w1 g t cur ∧ t ≠ 3 := fun g e => by
    obtain ⟨cur, hk⟩ := ownBlock_bk o1 e
    exact ⟨_, cur, hk, by decide⟩
  have f1 := (h2.ib k3 (fun g e => by cases e; exact ⟨_, _, h3, by decide⟩)).ib m2 hne
  have k1' := k1.kept m2 (own_ne k1 o1 (by decide))
  refine ⟨A6, c6, _, rfl, m1, f1.snoc (R := RowR) (own_row k1' hI h4.size) rfl, Bk.grown k2 m2 o1 (by decide), grown_new (grown_tr h4 k3) m2 (fun g e => (h1.lt g e).1)⟩
theorem rows_at {w wr : World} {rb p : Nat} {er : Int} {A : Option Addr} {n k : Nat} {hs : List Value} {rows : List (List P3)} (hr : RdT w 119 A n 1 hs) (hin : RowsIn tWd w hs rows) (hR : Rdr w rb p er) (hg : w.grownBy wr (some rb)) (hk : k < n) :
    ∃ b o r Ar kr cr, A = some ⟨b, o, none⟩ ∧ Hid (rows[k]? = some r) ∧ b < wr.heap.size ∧ wr.cell? ⟨b, o + k, none⟩ = some (.slice Ar kr cr) ∧ RdT wr tWd Ar kr 3 (c3s r) ∧ kr = r.length := by
  obtain ⟨b, o, cur, e, hb, hc⟩ := hr.2 (by omega)
  have hl : hs.length = n := by have := hr.1; omega
  have hk2 : k < rows.length := by rw [← hin.1, hl]; exact hk
  obtain ⟨Ar, kr, cr, g1, g2, -⟩ := hin.2 k _ (List.getElem?_eq_getElem hk2)
  have hb2 : Bk wr b 119 cur := Bk.kept2 hg hb (fun e' => by
    subst e'
    have := (bk_one hb hR).1
    revert this
    decide)
  exact ⟨b, o, rows[k], Ar, kr, cr, e, List.getElem?_eq_getElem hk2, hb2.lt, (hb2.cell _).trans (hc k _ g1), rdT_rdr g2 hR hg, g2.rd.len3.symm⟩
def trows (rows : List (List P3)) : List (List B) := rows.map txts
theorem trows_snoc {rows : List (List P3)} {k : Nat} {r : List P3} (h : rows[k]? = some r) : (trows rows).take (k + 1) = (trows rows).take k ++ [txts r] := by
  unfold trows
  rw [List.take_add_one, List.getElem?_map, h]
  rfl
theorem PAt.reader {w w' : World} {p gm cm rb : Nat} {err : Int} {gl : Gl} {cls : List (B × List Int)} (h : PAt w p gm cm gl cls) (hr : Rdr w rb p err) (hg : w.grownBy w' (some rb)) : PAt w' p gm cm gl cls := h.grown hr hg
set_option maxRecDepth 100000 in
set_option maxHeartbeats 2000000 in
theorem rows_ok (w : World) (rb p gm cm : Nat) (gl : Gl) (cls : List (B × List Int)) (err : Int) (A : Option Addr) (n c : Nat) (rows : List (List P3)) (hs : List Value) (hR : Rdr w rb p err) (hP : PAt w p gm cm gl cls) (hr : RdT w 119 A n 1 hs) (hin : RowsIn tWd w hs rows) (hn : n ≤ 1000000000)
    (hl : ∀ r ∈ rows, r.length ≤ 1000000000) (hI : ∀ er l, ∀ x ∈ (setRun gl cls er [] l).2, I64 x) :
    Calls Tryz.prog 136 #[.pointer (some ⟨rb, 0, none⟩), .slice A n c] w fun e w' => ∃ v, e = .returned v ∧ RowsSt w rb p (rowsRun gl cls err (trows rows)).1 n (rowsRun gl cls err (trows rows)).2 v w' := by
  have hlen : hs.length = n := by have := hr.1; omega
  have hrl := Lib.hid (show rows.length = n by rw [← hin.1]; exact hlen)
  have HR := Lib.hid hR
  have HP := Lib.hid hP
  have HW := Lib.hid hr
  have HIN := Lib.hid hin
  have HL := Lib.hid hl
  have HI := Lib.hid hI
  clear hR hP hr hin hl hI hlen
  go_enter Tryz.func136, Tryz.ntmps136
  go_wp2
  go_loopw [5, 10] (fun v i wr => ∃ k : Nat, k ≤ n ∧ i = .int .i64 k ∧ RowsSt w rb p (rowsRun gl cls err ((trows rows).take k)).1 k (rowsRun gl cls err ((trows rows).take k)).2 v wr) (fun _ i _ => n - (intOf i).toNat)
  case atStart => exact ⟨0, Nat.zero_le _, rfl, none, 0, [], rfl, World.ownsRow_nil _ _ _ _, Fl.nil, HR.out, World.grownBy.refl _ _⟩
  case round =>
    obtain ⟨k, hk, rfl, A4, c4, hs4, rfl, ho, hf, hr, hg⟩ := hrel
    by_cases hlt : k < n
    · obtain ⟨b, o, r, Ar, kr, cr, rfl, hp, hbw, q1, hrd, hkr⟩ := rows_at HW.out HIN.out HR.out hg hlt
      have hrl9 : kr ≤ 1000000000 := by
        rw [hkr]
        exact HL.out r (List.mem_of_getElem? hp.out)
      have hsn := trows_snoc hp.out
      have hsn2 := Lib.hid (rowsRun_snoc gl cls err ((trows rows).take k) (txts r))
      rw [← hsn] at hsn2
      have hr0 := Lib.hid hr
      have hf0 := Lib.hid hf
      have HG := Lib.hid hg
      have hII := HI.out (rowsRun gl cls err ((trows rows).take k)).1 (txts r)
      have hcall := Lib.hid (set_ok wr rb p gm cm gl cls (rowsRun gl cls err ((trows rows).take k)).1 Ar kr cr r hr (HP.out.reader HR.out hg) hrd hrl9)
      have hsz := hg.size
      generalize (rowsRun gl cls err ((trows rows).take k)).1 = er at *
      generalize (rowsRun gl cls err ((trows rows).take k)).2 = acc at *
      generalize hq : setRun gl cls er [] (txts r) = qq at *
      obtain ⟨er2, res⟩ := qq
      have hsn3 : Hid (rowsRun gl cls err ((trows rows).take (k + 1)) = (er2, acc ++ [res])) := by show _ = _; rw [hsn2.out]
      have HII := Lib.hid hII
      clear hp hsn hsn2 hr hrd hkr hf hg hII hq
      go_wp2_with (first
        | (go_at_call 128; refine hcall.out.mono ?_; rintro e w1 ⟨v, rfl, A5, c5, rfl, ho5, hr5, hg5⟩; have z1 := hg5.size)
        | (at_builtin; refine push_l elRow rfl (.tmp 14) (.tmp 18) rfl w1 _ rfl w.heap.size k c4 A4 hs4 #[.slice A5 res.length c5] rfl rfl rfl (ho.kept hg5 (own_ne_bk ho hr0.out (by decide))) (by simp [Value.oneCell']) (by omega) (by omega) ?_; intro A6 c6 w2 ho2 hg3 _))
      go_roundw
      case rel => exact ⟨k + 1, by omega, by simp, by rw [hsn3.out]; exact RowsSt.next ho hf0.out hr0.out HG.out ho5 HII.out hr5 hg5 ho2 hg3⟩
      case measure => simp [intOf]; omega
    · obtain rfl : k = n := by omega
      have ht : Hid ((trows rows).take k = trows rows) := by show _ = _; exact List.take_of_length_le (by rw [trows, List.length_map, hrl.out]; exact Nat.le_refl _)
      rw [ht.out] at hf hr
      go_wp2
      go_ret
      exact ⟨_, rfl, A4, c4, hs4, rfl, ho, hf, hr, hg⟩
end Go.Proofs.YtkijckccfookeaaGreatDoor
/- parse: the sets of rows; what may stand at a rule's end. -/
namespace Go.Proofs.YtkijckccfookeaaGreatDoor
open Go.RowKit

def SetsSt (w : World) (n : Nat) (rows : List (List Int)) (v : Value) (wr : World) : Prop :=
  ∃ A c hs, v = .slice A n c ∧ wr.ownsRow w.heap.size 22 1 (.slice A n c) n hs ∧ Fl RowR 1 wr (IB w.heap.size wr) hs rows ∧ Below w.heap.size w wr
theorem SetsSt.next {w wr w1 w2 : World} {n : Nat} {rows : List (List Int)} {l : List Int} {A A5 A6 : Option Addr} {c c5 c6 : Nat} {hs : List Value} (h1 : wr.ownsRow w.heap.size 22 1 (.slice A n c) n hs) (h2 : Fl RowR 1 wr (IB w.heap.size wr) hs rows) (h4 : Below w.heap.size w wr)
    (k1 : w1.ownsRow wr.heap.size 3 1 (.slice A5 l.length c5) l.length (cIs l)) (hI : ∀ x ∈ l, I64 x) (k3 : Below wr.heap.size wr w1) (m1 : w2.ownsRow w.heap.size 22 1 (.slice A6 (n + 1) c6) (n + 1) (hs ++ [.slice A5 l.length c5])) (m2 : w1.grownBy w2 (Value.slice A n c).ownBlock) :
    SetsSt w (n + 1) (rows ++ [l]) (.slice A6 (n + 1) c6) w2 := by
  have o1 := own_below h1 k3
  have hne : ∀ g, (Value.slice A n c).ownBlock = some g → ∃ t cur, Bk w1 g t cur ∧ t ≠ 3 := fun g e => by
    obtain ⟨cur, hk⟩ := ownBlock_bk o1 e
    exact ⟨_, cur, hk, by decide⟩
  have f1 := (h2.ib (only_of_below k3 none) (fun g e => by cases e)).ib m2 hne
  have k1' := k1.kept m2 (own_ne k1 o1 (by decide))
  exact ⟨A6, c6, _, rfl, m1, f1.snoc (R := RowR) (own_row k1' hI h4.size) rfl, (h4.trans (k3.mono h4.size)).grown m2 (Nat.le_trans h4.size k3.size) (fun g e => (h1.lt g e).1)⟩
theorem row_get {w : World} {S : Bs} {hs : List Value} {rows : List (List Int)} (h : Fl RowR 1 w S hs rows) {k : Nat} {r : List Int} (hk : rows[k]? = some r) : ∃ A c, hs[k]? = some (.slice A r.length c) ∧ Sl IntR 1 w S A r := by
  obtain ⟨cs, ⟨A, c, rfl, h1⟩, -, h3⟩ := h.2 k r hk
  have := h3 0 _ rfl
  rw [Nat.mul_one, Nat.add_zero] at this
  exact ⟨A, c, this, h1⟩
set_option maxRecDepth 100000 in
set_option maxHeartbeats 2000000 in
theorem setsOf_ok (w : World) (A : Option Addr) (n c : Nat) (rows : List (List Int)) (hs : List Value) {S : Bs} (hr : RdT w 22 A n 1 hs) (hf : Fl RowR 1 w S hs rows) (hS : ∀ b, S b → b < w.heap.size) (hn : n ≤ 1000000000) (hl : ∀ r ∈ rows, r.length ≤ 1000000000) (hI : ∀ r ∈ rows, ∀ x ∈ r, I64 x) :
    Calls Tryz.prog 137 #[.slice A n c] w fun e w' => ∃ v, e = .returned v ∧ SetsSt w n (rows.map setOf) v w' := by
  have hrl : rows.length = n := by have h1 := hr.1; have h2 := hf.1; omega
  have HW := Lib.hid hr
  have HF := Lib.hid hf
  have HS := Lib.hid hS
  have HL := Lib.hid hl
  have HI := Lib.hid hI
  have HRL := Lib.hid hrl
  clear hr hf hS hl hI hrl
  go_enter Tryz.func137, Tryz.ntmps137
  go_wp2
  go_loopw [3, 8] (fun v i wr => ∃ k : Nat, k ≤ n ∧ i = .int .i64 k ∧ SetsSt w k ((rows.map setOf).take k) v wr) (fun _ i _ => n - (intOf i).toNat)
  case atStart => exact ⟨0, Nat.zero_le _, rfl, none, 0, [], rfl, World.ownsRow_nil _ _ _ _, Fl.nil, Below.refl _ _⟩
  case round =>
    obtain ⟨k, hk, rfl, A4, c4, hs4, rfl, ho, hf4, hb4⟩ := hrel
    by_cases hlt : k < n
    · obtain ⟨r, hrk⟩ : ∃ r, rows[k]? = some r := ⟨_, List.getElem?_eq_getElem (by rw [HRL.out]; exact hlt)⟩
      obtain ⟨Ar, cr, hhk, hsl⟩ := row_get HF.out hrk
      obtain ⟨b, o, cur, rfl, hb, hcc⟩ := HW.out.2 (by omega)
      have q1 : wr.cell? ⟨b, o + k, none⟩ = some (.slice Ar r.length cr) := ((bcell hb4).1 _ _ hb.lt).trans ((hb.cell _).trans (hcc k _ hhk))
      have hbw : b < wr.heap.size := Nat.lt_of_lt_of_le hb.lt hb4.size
      have hrm := List.mem_of_getElem? hrk
      have hrl9 := HL.out r hrm
      have hrd : Rd wr w.heap.size Ar r.length 1 (cIs r) := (sl_rd hsl HS.out).below hb4 (Nat.le_refl _)
      have hcall := Lib.hid (setsOf1_ok wr Ar r.length cr r hrd hrl9)
      have hsn : Hid ((rows.map setOf).take (k + 1) = (rows.map setOf).take k ++ [setOf r]) := by
        show _ = _
        rw [List.take_add_one, List.getElem?_map, hrk]
        rfl
      have HII : Hid (∀ x ∈ setOf r, I64 x) := fun x hx => HI.out r hrm x ((mem_setOf x r).1 hx)
      have hsz := hb4.size
      have Hf4 := Lib.hid hf4
      have Hb4 := Lib.hid hb4
      generalize (rows.map setOf).take k = acc at *
      clear hrk hhk hsl hb hcc hrm hrd hf4 hb4
      go_wp2_with (first
        | (go_at_call 173; refine hcall.out.mono ?_; rintro e w1 ⟨A5, c5, rfl, ho5, hb5⟩; have z1 := hb5.size)
        | (at_builtin; refine push_l elRow rfl (.tmp 12) (.tmp 15) rfl w1 _ rfl w.heap.size k c4 A4 hs4 #[.slice A5 (setOf r).length c5] rfl rfl rfl (own_below ho hb5) (by simp [Value.oneCell']) (by omega) (by omega) ?_; intro A6 c6 w2 ho2 hg3 _))
      go_roundw
      case rel => exact ⟨k + 1, by omega, by simp, by rw [hsn.out]; exact SetsSt.next ho Hf4.out Hb4.out ho5 HII.out hb5 ho2 hg3⟩
      case measure => simp [intOf]; omega
    · obtain rfl : k = n := by omega
      have ht : Hid ((rows.map setOf).take k = rows.map setOf) := by show _ = _; exact List.take_of_length_le (by rw [List.length_map, HRL.out]; exact Nat.le_refl _)
      rw [ht.out] at hf4
      go_wp2
      go_ret
      exact ⟨_, rfl, A4, c4, hs4, rfl, ho, hf4, hb4⟩
theorem cast_eq1 (n : Nat) : (n == 1) = ((n : Int) == 1) := by rw [Bool.eq_iff_iff]; simp; omega
theorem cast_eq0 (n : Nat) : (n == 0) = ((n : Int) == 0) := by rw [Bool.eq_iff_iff]; simp
set_option maxRecDepth 100000 in
theorem areOut_ok (w : World) (kind : Int) (A : Option Addr) (n c : Nat) (ws : List P3) (hr : RdT w tWd A n 3 (c3s ws)) (hl : ∀ x ∈ ws, x.2.2.length ≤ 1000000) (hn : n ≤ 1000000000) :
    Calls Tryz.prog 135 #[.int .i64 kind, .slice A n c] w fun e w' => e = .returned (.bool (areOut kind (txts ws))) ∧ Below w.heap.size w w' := by
  have hlen : (txts ws).length = n := by rw [txts_len]; exact hr.rd.len3
  have hcall := Lib.hid (areCalls_ok w A n c ws hr hl hn)
  have hall : Hid (ws.all (fun x => callW x.2.2) = callsOk (txts ws)) := by show _ = _; rw [txts_all]; rfl
  by_cases h4 : kind = 4
  · have HR : Hid (areOut kind (txts ws) = callsOk (txts ws)) := by show _ = _; unfold areOut; rw [if_pos h4]
    subst h4
    clear hr hl hn hlen
    go_enter Tryz.func135, Tryz.ntmps135
    go_wp2_with fail
    refine hcall.out.mono ?_
    rintro e w1 ⟨rfl, hb⟩
    go_wp2
    go_ret
    rw [HR.out, hall.out]
    exact ⟨rfl, hb⟩
  · by_cases h6 : kind = 6
    · have HR : Hid (areOut kind (txts ws) = ((n : Int) == 1)) := by show _ = _; unfold areOut; rw [if_neg h4, if_pos h6, hlen, cast_eq1]
      subst h6
      clear hr hl hn hlen hcall h4
      go_enter Tryz.func135, Tryz.ntmps135
      go_wp2
      go_ret
      rw [HR.out]
      exact ⟨rfl, Below.refl _ _⟩
    · by_cases h7 : kind = 7 ∨ kind = 8
      · have HR : Hid (areOut kind (txts ws) = ((n : Int) == 0)) := by show _ = _; unfold areOut; rw [if_neg h4, if_neg h6, if_pos h7, hlen, cast_eq0]
        clear hr hl hn hlen hcall h4 h6
        rcases h7 with rfl | rfl
        all_goals
          go_enter Tryz.func135, Tryz.ntmps135
          go_wp2
          go_ret
          rw [HR.out]
          exact ⟨rfl, Below.refl _ _⟩
      · have HR : Hid (areOut kind (txts ws) = true) := by show _ = _; unfold areOut; rw [if_neg h4, if_neg h6, if_neg h7]
        have e4 : (kind == 4) = false := by simpa using h4
        have e6 : (kind == 6) = false := by simpa using h6
        have e7 : (kind == 7) = false := by simp; omega
        have e8 : (kind == 8) = false := by simp; omega
        clear hr hl hn hlen hcall h4 h6 h7
        go_enter Tryz.func135, Tryz.ntmps135
        go_wp2
        go_ret
        rw [HR.out]
        exact ⟨rfl, Below.refl _ _⟩
end Go.Proofs.YtkijckccfookeaaGreatDoor
