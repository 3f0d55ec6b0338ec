/- parse: a rule's rows, their sets. -/
import Derived.Test.YtkijckccfookeaaGreatDoorM24
import Derived.Deep.RegionWith
namespace Go.Proofs.YtkijckccfookeaaGreatDoor
open Go.RowKit

/-- the rows of texts, one by one; the first error stays -/
def rowsRun (gl : Gl) (cls : List (B × List Int)) (er : Int) (l : List (List B)) : Int × List (List Int) := l.foldl (fun q x => ((setRun gl cls q.1 [] x).1, q.2 ++ [(setRun gl cls q.1 [] x).2])) (er, [])
theorem rowsRun_snoc (gl : Gl) (cls : List (B × List Int)) (er : Int) (l : List (List B)) (x : List B) : rowsRun gl cls er (l ++ [x]) = ((setRun gl cls (rowsRun gl cls er l).1 [] x).1, (rowsRun gl cls er l).2 ++ [(setRun gl cls (rowsRun gl cls er l).1 [] x).2]) := by
  unfold rowsRun
  rw [List.foldl_append]
  rfl
theorem rowsRun_len (gl : Gl) (cls : List (B × List Int)) (er : Int) (l : List (List B)) : (rowsRun gl cls er l).2.length = l.length := by
  suffices h : ∀ q : Int × List (List Int), (l.foldl (fun q x => ((setRun gl cls q.1 [] x).1, q.2 ++ [(setRun gl cls q.1 [] x).2])) q).2.length = q.2.length + l.length by
    have := h (er, [])
    simpa [rowsRun] using this
  induction l with
  | nil => intro q; rfl
  | cons x r ih =>
    intro q
    rw [List.foldl_cons, ih]
    simp
    omega
/-- blocks of whole numbers that lie behind a place -/
def IB (base : Nat) (w : World) : Bs := fun g => base ≤ g ∧ ∃ cur, Bk w g 3 cur
theorem IB.keep {base : Nat} {w w' : World} {row : Option Nat} (hg : w.grownBy w' row) (hr : ∀ g, row = some g → ∃ t cur, Bk w g t cur ∧ t ≠ 3) : Same (IB base w) w w' ∧ ∀ g, IB base w g → IB base w' g := by
  have h : Same (IB base w) w w' := fun b ⟨_, cur, hb⟩ => hg.block b hb.lt fun e => by
    obtain ⟨t, cur', h1, h2⟩ := hr b e.symm
    exact h2 (bk_one h1 hb).1
  exact ⟨h, fun g hg' => ⟨hg'.1, by obtain ⟨cur, hb⟩ := hg'.2; exact ⟨cur, hb.keep (h g hg')⟩⟩⟩
theorem Fl.ib {base : Nat} {w w' : World} {row : Option Nat} {cs : List Value} {xs : List (List Int)} (h : Fl RowR 1 w (IB base w) cs xs) (hg : w.grownBy w' row) (hr : ∀ g, row = some g → ∃ t cur, Bk w g t cur ∧ t ≠ 3) : Fl RowR 1 w' (IB base w') cs xs :=
  (h.keep RowR.ok (IB.keep hg hr).1).mono RowR.ok (IB.keep hg hr).2
theorem own_row {w : World} {base b2 : Nat} {l : List Int} {A : Option Addr} {c : Nat} (ho : w.ownsRow b2 3 1 (.slice A l.length c) l.length (cIs l)) (hI : ∀ x ∈ l, I64 x) (hb : base ≤ b2) : RowR w (IB base w) [.slice A l.length c] l := by
  refine ⟨A, c, rfl, Sl.of_own' ho (int_fl w (IB base w) l hI) (fun g hg => ?_) (by decide)⟩
  obtain ⟨cur, hk⟩ := ownBlock_bk ho hg
  exact ⟨Nat.le_trans hb (ho.lt g hg).1, cur, hk⟩
/-- between two rounds -/
def RowsSt (w : World) (rb p : Nat) (er : Int) (n : Nat) (rows : List (List Int)) (v : Value) (wr : World) : Prop :=
  ∃ A c hs, v = .slice A n c ∧ wr.ownsRow w.heap.size 22 1 (.slice A n c) n hs ∧ Fl RowR 1 wr (IB w.heap.size wr) hs rows ∧ Rdr wr rb p er ∧ w.grownBy wr (some rb)
theorem RowsSt.next {w wr w1 w2 : World} {rb p : Nat} {er er' : Int} {n : Nat} {rows : List (List Int)} {l : List Int} {A A5 A6 : Option Addr} {c c5 c6 : Nat} {hs : List Value} (h1 : wr.ownsRow w.heap.size 22 1 (.slice A n c) n hs) (h2 : Fl RowR 1 wr (IB w.heap.size wr) hs rows) (h3 : Rdr wr rb p er) (h4 : w.grownBy wr (some rb))
    (k1 : w1.ownsRow wr.heap.size 3 1 (.slice A5 l.length c5) l.length (cIs l)) (hI : ∀ x ∈ l, I64 x) (k2 : Rdr w1 rb p er') (k3 : wr.grownBy w1 (some rb)) (m1 : w2.ownsRow w.heap.size 22 1 (.slice A6 (n + 1) c6) (n + 1) (hs ++ [.slice A5 l.length c5])) (m2 : w1.grownBy w2 (Value.slice A n c).ownBlock) :
    RowsSt w rb p er' (n + 1) (rows ++ [l]) (.slice A6 (n + 1) c6) w2 := by
  have o1 := h1.kept k3 (own_ne_bk h1 h3 (by decide))
  have hne : ∀ g, (Value.slice A n c).ownBlock = some g → ∃ t cur, Bk w1 g t cur ∧ t ≠ 3 := fun g e => by
    obtain ⟨cur, hk⟩ := ownBlock_bk o1 e
    exact ⟨_, cur, hk, by decide⟩
  have f1 := (h2.ib k3 (fun g e => by cases e; exact ⟨_, _, h3, by decide⟩)).ib m2 hne
  have k1' := k1.kept m2 (own_ne k1 o1 (by decide))
  refine ⟨A6, c6, _, rfl, m1, f1.snoc (R := RowR) (own_row k1' hI h4.size) rfl, Bk.grown k2 m2 o1 (by decide), grown_new (grown_tr h4 k3) m2 (fun g e => (h1.lt g e).1)⟩
theorem rows_at {w wr : World} {rb p : Nat} {er : Int} {A : Option Addr} {n k : Nat} {hs : List Value} {rows : List (List P3)} (hr : RdT w 119 A n 1 hs) (hin : RowsIn tWd w hs rows) (hR : Rdr w rb p er) (hg : w.grownBy wr (some rb)) (hk : k < n) :
    ∃ b o r Ar kr cr, A = some ⟨b, o, none⟩ ∧ Hid (rows[k]? = some r) ∧ b < wr.heap.size ∧ wr.cell? ⟨b, o + k, none⟩ = some (.slice Ar kr cr) ∧ RdT wr tWd Ar kr 3 (c3s r) ∧ kr = r.length := by
  obtain ⟨b, o, cur, e, hb, hc⟩ := hr.2 (by omega)
  have hl : hs.length = n := by have := hr.1; omega
  have hk2 : k < rows.length := by rw [← hin.1, hl]; exact hk
  obtain ⟨Ar, kr, cr, g1, g2, -⟩ := hin.2 k _ (List.getElem?_eq_getElem hk2)
  have hb2 : Bk wr b 119 cur := Bk.kept2 hg hb (fun e' => by
    subst e'
    have := (bk_one hb hR).1
    revert this
    decide)
  exact ⟨b, o, rows[k], Ar, kr, cr, e, List.getElem?_eq_getElem hk2, hb2.lt, (hb2.cell _).trans (hc k _ g1), rdT_rdr g2 hR hg, g2.rd.len3.symm⟩
def trows (rows : List (List P3)) : List (List B) := rows.map txts
theorem trows_snoc {rows : List (List P3)} {k : Nat} {r : List P3} (h : rows[k]? = some r) : (trows rows).take (k + 1) = (trows rows).take k ++ [txts r] := by
  unfold trows
  rw [List.take_add_one, List.getElem?_map, h]
  rfl
theorem PAt.reader {w w' : World} {p gm cm rb : Nat} {err : Int} {gl : Gl} {cls : List (B × List Int)} (h : PAt w p gm cm gl cls) (hr : Rdr w rb p err) (hg : w.grownBy w' (some rb)) : PAt w' p gm cm gl cls := h.grown hr hg
set_option maxRecDepth 100000 in
set_option maxHeartbeats 2000000 in
theorem rows_ok (w : World) (rb p gm cm : Nat) (gl : Gl) (cls : List (B × List Int)) (err : Int) (A : Option Addr) (n c : Nat) (rows : List (List P3)) (hs : List Value) (hR : Rdr w rb p err) (hP : PAt w p gm cm gl cls) (hr : RdT w 119 A n 1 hs) (hin : RowsIn tWd w hs rows) (hn : n ≤ 1000000000)
    (hl : ∀ r ∈ rows, r.length ≤ 1000000000) (hI : ∀ er l, ∀ x ∈ (setRun gl cls er [] l).2, I64 x) :
    Calls Tryz.prog 136 #[.pointer (some ⟨rb, 0, none⟩), .slice A n c] w fun e w' => ∃ v, e = .returned v ∧ RowsSt w rb p (rowsRun gl cls err (trows rows)).1 n (rowsRun gl cls err (trows rows)).2 v w' := by
  have hlen : hs.length = n := by have := hr.1; omega
  have hrl := Lib.hid (show rows.length = n by rw [← hin.1]; exact hlen)
  have HR := Lib.hid hR
  have HP := Lib.hid hP
  have HW := Lib.hid hr
  have HIN := Lib.hid hin
  have HL := Lib.hid hl
  have HI := Lib.hid hI
  clear hR hP hr hin hl hI hlen
  go_enter Tryz.func136, Tryz.ntmps136
  go_wp2
  go_loopw [5, 10] (fun v i wr => ∃ k : Nat, k ≤ n ∧ i = .int .i64 k ∧ RowsSt w rb p (rowsRun gl cls err ((trows rows).take k)).1 k (rowsRun gl cls err ((trows rows).take k)).2 v wr) (fun _ i _ => n - (intOf i).toNat)
  case atStart => exact ⟨0, Nat.zero_le _, rfl, none, 0, [], rfl, World.ownsRow_nil _ _ _ _, Fl.nil, HR.out, World.grownBy.refl _ _⟩
  case round =>
    obtain ⟨k, hk, rfl, A4, c4, hs4, rfl, ho, hf, hr, hg⟩ := hrel
    by_cases hlt : k < n
    · obtain ⟨b, o, r, Ar, kr, cr, rfl, hp, hbw, q1, hrd, hkr⟩ := rows_at HW.out HIN.out HR.out hg hlt
      have hrl9 : kr ≤ 1000000000 := by
        rw [hkr]
        exact HL.out r (List.mem_of_getElem? hp.out)
      have hsn := trows_snoc hp.out
      have hsn2 := Lib.hid (rowsRun_snoc gl cls err ((trows rows).take k) (txts r))
      rw [← hsn] at hsn2
      have hr0 := Lib.hid hr
      have hf0 := Lib.hid hf
      have HG := Lib.hid hg
      have hII := HI.out (rowsRun gl cls err ((trows rows).take k)).1 (txts r)
      have hcall := Lib.hid (set_ok wr rb p gm cm gl cls (rowsRun gl cls err ((trows rows).take k)).1 Ar kr cr r hr (HP.out.reader HR.out hg) hrd hrl9)
      have hsz := hg.size
      generalize (rowsRun gl cls err ((trows rows).take k)).1 = er at *
      generalize (rowsRun gl cls err ((trows rows).take k)).2 = acc at *
      generalize hq : setRun gl cls er [] (txts r) = qq at *
      obtain ⟨er2, res⟩ := qq
      have hsn3 : Hid (rowsRun gl cls err ((trows rows).take (k + 1)) = (er2, acc ++ [res])) := by show _ = _; rw [hsn2.out]
      have HII := Lib.hid hII
      clear hp hsn hsn2 hr hrd hkr hf hg hII hq
      go_wp2_with (first
        | (go_at_call 128; refine hcall.out.mono ?_; rintro e w1 ⟨v, rfl, A5, c5, rfl, ho5, hr5, hg5⟩; have z1 := hg5.size)
        | (at_builtin; refine push_l elRow rfl (.tmp 14) (.tmp 18) rfl w1 _ rfl w.heap.size k c4 A4 hs4 #[.slice A5 res.length c5] rfl rfl rfl (ho.kept hg5 (own_ne_bk ho hr0.out (by decide))) (by simp [Value.oneCell']) (by omega) (by omega) ?_; intro A6 c6 w2 ho2 hg3 _))
      go_roundw
      case rel => exact ⟨k + 1, by omega, by simp, by rw [hsn3.out]; exact RowsSt.next ho hf0.out hr0.out HG.out ho5 HII.out hr5 hg5 ho2 hg3⟩
      case measure => simp [intOf]; omega
    · obtain rfl : k = n := by omega
      have ht : Hid ((trows rows).take k = trows rows) := by show _ = _; exact List.take_of_length_le (by rw [trows, List.length_map, hrl.out]; exact Nat.le_refl _)
      rw [ht.out] at hf hr
      go_wp2
      go_ret
      exact ⟨_, rfl, A4, c4, hs4, rfl, ho, hf, hr, hg⟩
end Go.Proofs.YtkijckccfookeaaGreatDoor
/- parse: the sets of rows; what may stand at a rule's end. -/
namespace Go.Proofs.YtkijckccfookeaaGreatDoor
open Go.RowKit

def SetsSt (w : World) (n : Nat) (rows : List (List Int)) (v : Value) (wr : World) : Prop :=
  ∃ A c hs, v = .slice A n c ∧ wr.ownsRow w.heap.size 22 1 (.slice A n c) n hs ∧ Fl RowR 1 wr (IB w.heap.size wr) hs rows ∧ Below w.heap.size w wr
theorem SetsSt.next {w wr w1 w2 : World} {n : Nat} {rows : List (List Int)} {l : List Int} {A A5 A6 : Option Addr} {c c5 c6 : Nat} {hs : List Value} (h1 : wr.ownsRow w.heap.size 22 1 (.slice A n c) n hs) (h2 : Fl RowR 1 wr (IB w.heap.size wr) hs rows) (h4 : Below w.heap.size w wr)
    (k1 : w1.ownsRow wr.heap.size 3 1 (.slice A5 l.length c5) l.length (cIs l)) (hI : ∀ x ∈ l, I64 x) (k3 : Below wr.heap.size wr w1) (m1 : w2.ownsRow w.heap.size 22 1 (.slice A6 (n + 1) c6) (n + 1) (hs ++ [.slice A5 l.length c5])) (m2 : w1.grownBy w2 (Value.slice A n c).ownBlock) :
    SetsSt w (n + 1) (rows ++ [l]) (.slice A6 (n + 1) c6) w2 := by
  have o1 := own_below h1 k3
  have hne : ∀ g, (Value.slice A n c).ownBlock = some g → ∃ t cur, Bk w1 g t cur ∧ t ≠ 3 := fun g e => by
    obtain ⟨cur, hk⟩ := ownBlock_bk o1 e
    exact ⟨_, cur, hk, by decide⟩
  have f1 := (h2.ib (only_of_below k3 none) (fun g e => by cases e)).ib m2 hne
  have k1' := k1.kept m2 (own_ne k1 o1 (by decide))
  exact ⟨A6, c6, _, rfl, m1, f1.snoc (R := RowR) (own_row k1' hI h4.size) rfl, (h4.trans (k3.mono h4.size)).grown m2 (Nat.le_trans h4.size k3.size) (fun g e => (h1.lt g e).1)⟩
theorem row_get {w : World} {S : Bs} {hs : List Value} {rows : List (List Int)} (h : Fl RowR 1 w S hs rows) {k : Nat} {r : List Int} (hk : rows[k]? = some r) : ∃ A c, hs[k]? = some (.slice A r.length c) ∧ Sl IntR 1 w S A r := by
  obtain ⟨cs, ⟨A, c, rfl, h1⟩, -, h3⟩ := h.2 k r hk
  have := h3 0 _ rfl
  rw [Nat.mul_one, Nat.add_zero] at this
  exact ⟨A, c, this, h1⟩
set_option maxRecDepth 100000 in
set_option maxHeartbeats 2000000 in
theorem setsOf_ok (w : World) (A : Option Addr) (n c : Nat) (rows : List (List Int)) (hs : List Value) {S : Bs} (hr : RdT w 22 A n 1 hs) (hf : Fl RowR 1 w S hs rows) (hS : ∀ b, S b → b < w.heap.size) (hn : n ≤ 1000000000) (hl : ∀ r ∈ rows, r.length ≤ 1000000000) (hI : ∀ r ∈ rows, ∀ x ∈ r, I64 x) :
    Calls Tryz.prog 137 #[.slice A n c] w fun e w' => ∃ v, e = .returned v ∧ SetsSt w n (rows.map setOf) v w' := by
  have hrl : rows.length = n := by have h1 := hr.1; have h2 := hf.1; omega
  have HW := Lib.hid hr
  have HF := Lib.hid hf
  have HS := Lib.hid hS
  have HL := Lib.hid hl
  have HI := Lib.hid hI
  have HRL := Lib.hid hrl
  clear hr hf hS hl hI hrl
  go_enter Tryz.func137, Tryz.ntmps137
  go_wp2
  go_loopw [3, 8] (fun v i wr => ∃ k : Nat, k ≤ n ∧ i = .int .i64 k ∧ SetsSt w k ((rows.map setOf).take k) v wr) (fun _ i _ => n - (intOf i).toNat)
  case atStart => exact ⟨0, Nat.zero_le _, rfl, none, 0, [], rfl, World.ownsRow_nil _ _ _ _, Fl.nil, Below.refl _ _⟩
  case round =>
    obtain ⟨k, hk, rfl, A4, c4, hs4, rfl, ho, hf4, hb4⟩ := hrel
    by_cases hlt : k < n
    · obtain ⟨r, hrk⟩ : ∃ r, rows[k]? = some r := ⟨_, List.getElem?_eq_getElem (by rw [HRL.out]; exact hlt)⟩
      obtain ⟨Ar, cr, hhk, hsl⟩ := row_get HF.out hrk
      obtain ⟨b, o, cur, rfl, hb, hcc⟩ := HW.out.2 (by omega)
      have q1 : wr.cell? ⟨b, o + k, none⟩ = some (.slice Ar r.length cr) := ((bcell hb4).1 _ _ hb.lt).trans ((hb.cell _).trans (hcc k _ hhk))
      have hbw : b < wr.heap.size := Nat.lt_of_lt_of_le hb.lt hb4.size
      have hrm := List.mem_of_getElem? hrk
      have hrl9 := HL.out r hrm
      have hrd : Rd wr w.heap.size Ar r.length 1 (cIs r) := (sl_rd hsl HS.out).below hb4 (Nat.le_refl _)
      have hcall := Lib.hid (setsOf1_ok wr Ar r.length cr r hrd hrl9)
      have hsn : Hid ((rows.map setOf).take (k + 1) = (rows.map setOf).take k ++ [setOf r]) := by
        show _ = _
        rw [List.take_add_one, List.getElem?_map, hrk]
        rfl
      have HII : Hid (∀ x ∈ setOf r, I64 x) := fun x hx => HI.out r hrm x ((mem_setOf x r).1 hx)
      have hsz := hb4.size
      have Hf4 := Lib.hid hf4
      have Hb4 := Lib.hid hb4
      generalize (rows.map setOf).take k = acc at *
      clear hrk hhk hsl hb hcc hrm hrd hf4 hb4
      go_wp2_with (first
        | (go_at_call 173; refine hcall.out.mono ?_; rintro e w1 ⟨A5, c5, rfl, ho5, hb5⟩; have z1 := hb5.size)
        | (at_builtin; refine push_l elRow rfl (.tmp 12) (.tmp 15) rfl w1 _ rfl w.heap.size k c4 A4 hs4 #[.slice A5 (setOf r).length c5] rfl rfl rfl (own_below ho hb5) (by simp [Value.oneCell']) (by omega) (by omega) ?_; intro A6 c6 w2 ho2 hg3 _))
      go_roundw
      case rel => exact ⟨k + 1, by omega, by simp, by rw [hsn.out]; exact SetsSt.next ho Hf4.out Hb4.out ho5 HII.out hb5 ho2 hg3⟩
      case measure => simp [intOf]; omega
    · obtain rfl : k = n := by omega
      have ht : Hid ((rows.map setOf).take k = rows.map setOf) := by show _ = _; exact List.take_of_length_le (by rw [List.length_map, HRL.out]; exact Nat.le_refl _)
      rw [ht.out] at hf4
      go_wp2
      go_ret
      exact ⟨_, rfl, A4, c4, hs4, rfl, ho, hf4, hb4⟩
theorem cast_eq1 (n : Nat) : (n == 1) = ((n : Int) == 1) := by rw [Bool.eq_iff_iff]; simp; omega
theorem cast_eq0 (n : Nat) : (n == 0) = ((n : Int) == 0) := by rw [Bool.eq_iff_iff]; simp
set_option maxRecDepth 100000 in
theorem areOut_ok (w : World) (kind : Int) (A : Option Addr) (n c : Nat) (ws : List P3) (hr : RdT w tWd A n 3 (c3s ws)) (hl : ∀ x ∈ ws, x.2.2.length ≤ 1000000) (hn : n ≤ 1000000000) :
    Calls Tryz.prog 135 #[.int .i64 kind, .slice A n c] w fun e w' => e = .returned (.bool (areOut kind (txts ws))) ∧ Below w.heap.size w w' := by
  have hlen : (txts ws).length = n := by rw [txts_len]; exact hr.rd.len3
  have hcall := Lib.hid (areCalls_ok w A n c ws hr hl hn)
  have hall : Hid (ws.all (fun x => callW x.2.2) = callsOk (txts ws)) := by show _ = _; rw [txts_all]; rfl
  by_cases h4 : kind = 4
  · have HR : Hid (areOut kind (txts ws) = callsOk (txts ws)) := by show _ = _; unfold areOut; rw [if_pos h4]
    subst h4
    clear hr hl hn hlen
    go_enter Tryz.func135, Tryz.ntmps135
    go_wp2_with fail
    refine hcall.out.mono ?_
    rintro e w1 ⟨rfl, hb⟩
    go_wp2
    go_ret
    rw [HR.out, hall.out]
    exact ⟨rfl, hb⟩
  · by_cases h6 : kind = 6
    · have HR : Hid (areOut kind (txts ws) = ((n : Int) == 1)) := by show _ = _; unfold areOut; rw [if_neg h4, if_pos h6, hlen, cast_eq1]
      subst h6
      clear hr hl hn hlen hcall h4
      go_enter Tryz.func135, Tryz.ntmps135
      go_wp2
      go_ret
      rw [HR.out]
      exact ⟨rfl, Below.refl _ _⟩
    · by_cases h7 : kind = 7 ∨ kind = 8
      · have HR : Hid (areOut kind (txts ws) = ((n : Int) == 0)) := by show _ = _; unfold areOut; rw [if_neg h4, if_neg h6, if_pos h7, hlen, cast_eq0]
        clear hr hl hn hlen hcall h4 h6
        rcases h7 with rfl | rfl
        all_goals
          go_enter Tryz.func135, Tryz.ntmps135
          go_wp2
          go_ret
          rw [HR.out]
          exact ⟨rfl, Below.refl _ _⟩
      · have HR : Hid (areOut kind (txts ws) = true) := by show _ = _; unfold areOut; rw [if_neg h4, if_neg h6, if_neg h7]
        have e4 : (kind == 4) = false := by simpa using h4
        have e6 : (kind == 6) = false := by simpa using h6
        have e7 : (kind == 7) = false := by simp; omega
        have e8 : (kind == 8) = false := by simp; omega
        clear hr hl hn hlen hcall h4 h6 h7
        go_enter Tryz.func135, Tryz.ntmps135
        go_wp2
        go_ret
        rw [HR.out]
        exact ⟨rfl, Below.refl _ _⟩
end Go.Proofs.YtkijckccfookeaaGreatDoor
/- parse: the words at a rule's end. -/
namespace Go.Proofs.YtkijckccfookeaaGreatDoor
open Go.RowKit
attribute [-go_sem] Builtin.append_

abbrev tRule : TypeId := 76
/-- all but two blocks is as it was -/
structure Two (w w' : World) (a b : Nat) : Prop where
  os : w'.os = w.os
  tape : w'.tape = w.tape
  output : w'.output = w.output
  size : w.heap.size ≤ w'.heap.size
  block : ∀ k, k < w.heap.size → k ≠ a → k ≠ b → w'.heap[k]? = w.heap[k]?
theorem Two.refl (w : World) (a b : Nat) : Two w w a b := ⟨rfl, rfl, rfl, Nat.le_refl _, fun _ _ _ _ => rfl⟩
theorem Two.grown {w w1 w2 : World} {a b : Nat} {row : Option Nat} (h : Two w w1 a b) (hg : w1.grownBy w2 row) (hr : ∀ g, row = some g → w.heap.size ≤ g ∨ g = a ∨ g = b) : Two w w2 a b :=
  ⟨hg.os.trans h.os, hg.tape.trans h.tape, hg.output.trans h.output, Nat.le_trans h.size hg.size, fun k hk h1 h2 => (hg.block k (Nat.lt_of_lt_of_le hk h.size) (fun e => by
    rcases hr k e.symm with g | g | g
    · omega
    · exact h1 g
    · exact h2 g)).trans (h.block k hk h1 h2)⟩
theorem Two.below {w0 w w' : World} {a b : Nat} (h0 : Below w0.heap.size w0 w) (h : Two w w' a b) (ha : w0.heap.size ≤ a) (hb : w0.heap.size ≤ b) : Below w0.heap.size w0 w' :=
  ⟨h.os.trans h0.os, h.tape.trans h0.tape, h.output.trans h0.output, Nat.le_trans h0.size h.size, fun k hk => (h.block k (Nat.lt_of_lt_of_le hk h0.size) (by omega) (by omega)).trans (h0.block k hk)⟩
theorem Two.rdT {w w' : World} {a b : Nat} (h : Two w w' a b) {t ta tb : TypeId} {ca cb : Array Value} (ha : Bk w a ta ca) (hb : Bk w b tb cb) (n1 : t ≠ ta) (n2 : t ≠ tb) {A : Option Addr} {n size : Nat} {cs : List Value} (hr : RdT w t A n size cs) : RdT w' t A n size cs :=
  ⟨hr.1, fun h0 => by
    obtain ⟨g, o, cur, e, hg, hc⟩ := hr.2 h0
    refine ⟨g, o, cur, e, hg.keep (h.block g hg.lt (fun e' => ?_) (fun e' => ?_)), hc⟩
    · subst e'; exact n1 (bk_one hg ha).1
    · subst e'; exact n2 (bk_one hg hb).1⟩
theorem GmAt.two {w w' : World} {p gm a b : Nat} {gl : Gl} (h : GmAt w p gm gl) (ht : Two w w' a b) (hp : p < w.heap.size) (h1 : p ≠ a) (h2 : p ≠ b) (h3 : gm ≠ a) (h4 : gm ≠ b) : GmAt w' p gm gl :=
  ⟨(World.cell?_of_block (a := ⟨p, 10, none⟩) (ht.block p hp h1 h2)).trans h.cell, h.map.keep (ht.block gm h.map.lt h3 h4)⟩
/-- what the end of a rule reads as -/
structure OutR (w : World) (C rb p : Nat) (v0 v1 v2 : Value) (er : Int) (out : List Int) (calls : List Call) (x : Int) (w' : World) : Prop where
  bk : ∃ Ao co Ac cc, Bk w' C tRule #[v0, v1, v2, .slice Ao out.length co, .slice Ac calls.length cc, .int .i64 x] ∧ w'.ownsRow w.heap.size 3 1 (.slice Ao out.length co) out.length (cIs out) ∧ w'.ownsRow w.heap.size 95 2 (.slice Ac calls.length cc) calls.length (callC calls)
  rd : Rdr w' rb p er
  two : Two w w' rb C
theorem GmAt.below {w w' : World} {p gm : Nat} {gl : Gl} (h : GmAt w p gm gl) (hb : Below w.heap.size w w') : GmAt w' p gm gl :=
  ⟨(World.cell?_of_block (a := ⟨p, 10, none⟩) (hb.block p (World.block_lt_of_cell? w ⟨p, 10, none⟩ h.cell))).trans h.cell, h.map.below hb⟩
theorem eGls_snoc {l m : List B} {z : B} (gl : Gl) (err : Int) (h : m = l ++ [z]) : eGls gl err m = eGl gl (eGls gl err l) z := by subst h; simp [eGls]
theorem OutR.more {w wr w1 w2 : World} {C rb p : Nat} {v0 v1 v2 : Value} {er er2 : Int} {out : List Int} {vz : Int} {Ao A6 Ac : Option Addr} {co c6 cc : Nat} {o : Obj} (hb : Bk wr C tRule #[v0, v1, v2, .slice Ao out.length co, .slice Ac 0 cc, .int .i64 0]) (ho : wr.ownsRow w.heap.size 3 1 (.slice Ao out.length co) out.length (cIs out)) (hoc : wr.ownsRow w.heap.size 95 2 (.slice Ac 0 cc) 0 [])
    (hrd : Rdr wr rb p er) (htw : Two w wr rb C) (hrc : rb ≠ C) (hr1 : Rdr w1 rb p er2) (hg1 : (wr.alloc o).grownBy w1 (some rb)) (ho2 : w2.ownsRow w.heap.size 3 1 (.slice A6 (out.length + 1) c6) (out.length + 1) (cIs out ++ [.int .i64 vz])) (hg2 : w1.grownBy w2 (Value.slice Ao out.length co).ownBlock) :
    OutR w C rb p v0 v1 v2 er2 (out ++ [vz]) [] 0 (w2.setCell ⟨C, 3, none⟩ (.slice A6 (out.length + 1) c6)) ∧ w2.cell? ⟨C, 3, none⟩ = some (.slice Ao out.length co) ∧ w2.frozen? ⟨C, 3, none⟩ = false := by
  have hg1' : wr.grownBy w1 (some rb) := grown_tr (World.grownBy_alloc _ _ _) hg1
  have o1 := ho.kept hg1' (own_ne_bk ho hrd (by decide))
  have oc1 := hoc.kept hg1' (own_ne_bk hoc hrd (by decide))
  have b1 : Bk w1 C tRule _ := Bk.kept2 hg1' hb (fun e => hrc e.symm)
  have b2 := Bk.grown b1 hg2 o1 (by decide)
  have oc2 := oc1.kept hg2 (own_ne oc1 o1 (by decide))
  have r2 := Bk.grown hr1 hg2 o1 (by decide)
  have s1 := htw.size
  refine ⟨⟨⟨A6, c6, Ac, cc, ?_, ?_, own_setBk oc2 b2 (by decide) 3 _⟩, Bk.far r2 (by simpa using hrc) _, ((htw.grown hg1' (fun g e => by cases e; exact .inr (.inl rfl))).grown hg2 (fun g e => .inl (ho.lt g e).1)).grown (grown_set w2 ⟨C, 3, none⟩ _) (fun g e => by cases e; exact .inr (.inr rfl))⟩, b2.cell 3, b2.frozen 3⟩
  · have := b2.set 3 (.slice A6 (out.length + 1) c6)
    rw [List.length_append]
    exact this
  · rw [List.length_append, cIs_app]
    exact own_setBk ho2 b2 (by decide) 3 _
set_option maxRecDepth 100000 in
set_option maxHeartbeats 4000000 in
theorem out_plain (w : World) (C rb p gm : Nat) (gl : Gl) (kind err : Int) (v0 v1 v2 : Value) (A : Option Addr) (n c : Nat) (ws : List P3) (hk : kind = 1 ∨ kind = 2 ∨ kind = 3 ∨ kind = 5) (hC : Bk w C tRule #[v0, v1, v2, .slice none 0 0, .slice none 0 0, .int .i64 0]) (hR : Rdr w rb p err) (hG : GmAt w p gm gl)
    (hp : p < w.heap.size) (p1 : p ≠ rb) (p2 : p ≠ C) (p3 : gm ≠ rb) (p4 : gm ≠ C) (hw : RdT w tWd A n 3 (c3s ws)) (hn : n ≤ 1000000000) :
    Calls Tryz.prog 138 #[.pointer (some ⟨rb, 0, none⟩), .int .i64 kind, .slice A n c, .pointer (some ⟨C, 0, none⟩)] w fun e w' => e = .returned (.tuple #[]) ∧ OutR w C rb p v0 v1 v2 (eGls gl err (txts ws)) ((txts ws).map (vGl gl)) [] 0 w' := by
  have hwl := Lib.hid hw.rd.len3
  have hrc : rb ≠ C := fun e => by
    subst e
    have := (bk_one hR hC).1
    revert this
    decide
  have HC := Lib.hid hC
  have HR := Lib.hid hR
  have HG := Lib.hid hG
  have HW := Lib.hid hw
  have HP := Lib.hid hp
  clear hC hR hG hw hp
  go_enter Tryz.func138, Tryz.ntmps138
  rcases hk with rfl | rfl | rfl | rfl
  all_goals
    go_wp2
    go_loopw [18] (fun i wr => ∃ k : Nat, k ≤ n ∧ i = .int .i64 k ∧ OutR w C rb p v0 v1 v2 (eGls gl err ((txts ws).take k)) (((txts ws).take k).map (vGl gl)) [] 0 wr) (fun i _ => n - (intOf i).toNat)
    case atStart => exact ⟨0, Nat.zero_le _, rfl, ⟨none, 0, none, 0, HC.out, World.ownsRow_nil _ _ _ _, World.ownsRow_nil _ _ _ _⟩, HR.out, Two.refl _ _ _⟩
    case round =>
      obtain ⟨k, hk, rfl, ⟨Ao, co, Ac, cc, hb, ho, hoc⟩, hrd, htw⟩ := hrel
      by_cases hlt : k < n
      · obtain ⟨b, o, x, y, z, rfl, hbl, hpz, q1, q2, q3⟩ := HW.out.rd.at3 hlt
        have hsn := txts_snoc hpz.out
        obtain ⟨_, _, _, e9, g1⟩ : ∃ b' o' cur, (some ⟨b, o, none⟩ : Option Addr) = some ⟨b', o', none⟩ ∧ Bk wr b' tWd cur := by
          obtain ⟨b', o', cur, e, hk, -⟩ := (htw.rdT HR.out HC.out (by decide) (by decide) HW.out).2 (by omega)
          exact ⟨b', o', cur, e, hk⟩
        have hrdw := (htw.rdT HR.out HC.out (by decide) (by decide) HW.out).rd
        obtain ⟨b', o', x', y', z', e', hbl', hpz', p1', p2', p3'⟩ := hrdw.at3 hlt
        obtain ⟨rfl, rfl⟩ : b = b' ∧ o = o' := by simpa using e'
        obtain ⟨rfl, rfl, rfl⟩ : x = x' ∧ y = y' ∧ z = z' := by have := hpz.out.symm.trans hpz'.out; simpa using this
        have hs1 : Hid (((txts ws).take (k + 1)).map (vGl gl) = ((txts ws).take k).map (vGl gl) ++ [vGl gl z]) := by show _ = _; rw [hsn, List.map_append]; rfl
        have hs2 := Lib.hid (eGls_snoc gl err hsn)
        have hlk : Hid ((((txts ws).take k).map (vGl gl)).length = k) := by
          show _ = _
          rw [List.length_map, List.length_take, txts_len, hwl.out]
          omega
        have a_c : wr.cell? ⟨C, 3, none⟩ = some (.slice Ao (((txts ws).take k).map (vGl gl)).length co) := hb.cell 3
        have zc : C < wr.heap.size := hb.lt
        have HGm := Lib.hid (HG.out.two htw HP.out p1 p2 p3 p4)
        have hgly := Lib.hid (fun er (h : Rdr wr rb p er) => glyph_ok ((wr.alloc (.cells #[.int .i64 x, .int .i64 y, .string ⟨z.toArray⟩] tWd)).drew) rb p gm gl er z (h.alloc _) (HGm.out.below ((Below.refl _ _).alloc (Nat.le_refl _) _).drew))
        generalize hls : ((txts ws).take k).map (vGl gl) = outs at *
        generalize eGls gl err ((txts ws).take k) = er at *
        generalize vGl gl z = vz at *
        rw [hlk.out] at a_c
        have hs9 := htw.size
        have Hb := Lib.hid hb
        have Ho := Lib.hid ho
        have Hoc := Lib.hid hoc
        have Hrd := Lib.hid hrd
        have Htw := Lib.hid htw
        clear hpz hpz' hsn e' e9 g1 hrdw q1 q2 q3 hls hb ho hoc hrd htw
        go_wp2_with fail
        go_region_with (go_at_call 132; refine (hgly.out _ (by exact Hrd.out)).mono ?_; rintro e w1 ⟨rfl, hr1, hg1⟩; have hgg : (wr.alloc (.cells #[.int .i64 x, .int .i64 y, .string ⟨z.toArray⟩] tWd)).grownBy w1 (some rb) := ⟨hg1.os, hg1.tape, hg1.output, hg1.size, hg1.block⟩; have hgw : wr.grownBy w1 (some rb) := grown_tr (World.grownBy_alloc _ _ _) hgg; have b1 : Bk w1 C tRule _ := Bk.kept2 hgw Hb.out (fun e => hrc e.symm); have k1 : w1.cell? ⟨C, 3, none⟩ = some (.slice Ao k co) := (b1.cell 3).trans (by rw [← hlk.out]; rfl); have zc1 := b1.lt; have ho1 := Ho.out.kept hgw (own_ne_bk Ho.out Hrd.out (by decide)); have hz1 := hgw.size; obtain ⟨A6, c6, w2, hrun, ho2, hg2, -⟩ := run_push0 elInt 22 w1 w.heap.size _ co Ao _ #[.int .i64 vz] rfl ho1 (by simp [Value.oneCell']) (by rw [hlk.out]; omega) (by omega); obtain ⟨hOut, x9, y9⟩ := OutR.more Hb.out Ho.out Hoc.out Hrd.out Htw.out hrc hr1 hgg ho2 hg2; rw [hlk.out] at hrun x9; rw [hlk.out, ← hs1.out, ← hs2.out] at hOut; have HOut := Lib.hid hOut; clear hOut ho2 hg2 ho1 b1 hgw hgg hr1 hg1)
        all_goals
          go_wp2
          go_round
          case rel => exact ⟨k + 1, by omega, by simp, HOut.out⟩
          case measure => simp [intOf]; omega
      · obtain rfl : k = n := by omega
        have ht : Hid ((txts ws).take k = txts ws) := by show _ = _; exact List.take_of_length_le (by rw [txts_len, hwl.out]; exact Nat.le_refl _)
        rw [ht.out] at hb ho hrd
        have HO : Hid (OutR w C rb p v0 v1 v2 (eGls gl err (txts ws)) ((txts ws).map (vGl gl)) [] 0 wr) := ⟨⟨_, _, _, _, hb, ho, hoc⟩, hrd, htw⟩
        clear hb ho hoc hrd htw
        go_wp2
        go_end0
        exact ⟨rfl, HO.out⟩
end Go.Proofs.YtkijckccfookeaaGreatDoor
/- parse: the words at the end of a chain, a pair; the others. -/
namespace Go.Proofs.YtkijckccfookeaaGreatDoor
open Go.RowKit
attribute [-go_sem] Builtin.append_

set_option maxRecDepth 100000 in
set_option maxHeartbeats 4000000 in
theorem out_chain (w : World) (C rb p : Nat) (err : Int) (v0 v1 v2 : Value) (A : Option Addr) (n c : Nat) (ws : List P3) (hC : Bk w C tRule #[v0, v1, v2, .slice none 0 0, .slice none 0 0, .int .i64 0]) (hR : Rdr w rb p err)
    (hw : RdT w tWd A n 3 (c3s ws)) (hl : ∀ x ∈ ws, x.2.2.length ≤ 1000000) (hn : n ≤ 1000000000) :
    Calls Tryz.prog 138 #[.pointer (some ⟨rb, 0, none⟩), .int .i64 4, .slice A n c, .pointer (some ⟨C, 0, none⟩)] w fun e w' => e = .returned (.tuple #[]) ∧ OutR w C rb p v0 v1 v2 ((txts ws).foldl eCall err) [] ((txts ws).map vCall) 0 w' := by
  have hrc : rb ≠ C := fun e => by
    subst e
    have := (bk_one hR hC).1
    revert this
    decide
  have hlk : ((txts ws).map vCall).length = n := by rw [List.length_map, txts_len]; exact hw.rd.len3
  have hcall := Lib.hid (calls_ok w rb p err A n c ws hR hw hl hn)
  have HC := Lib.hid hC
  have hzc : C < w.heap.size := hC.lt
  generalize (txts ws).foldl eCall err = er2 at *
  generalize (txts ws).map vCall = cl at *
  have Hlk := Lib.hid hlk
  clear hC hR hw hl hlk
  go_enter Tryz.func138, Tryz.ntmps138
  go_wp2_with fail
  refine hcall.out.mono ?_
  rintro e w1 ⟨v, rfl, A5, c5, rfl, ho5, hr5, hg5⟩
  have b1 : Bk w1 C tRule _ := Bk.kept2 hg5 HC.out (fun e => hrc e.symm)
  have k1 : w1.cell? ⟨C, 4, none⟩ = some (.slice none 0 0) := b1.cell 4
  have y1 := b1.frozen 4
  have zc := b1.lt
  have HO : Hid (OutR w C rb p v0 v1 v2 er2 [] cl 0 (w1.setCell ⟨C, 4, none⟩ (.slice A5 n c5))) := by
    refine ⟨⟨none, 0, A5, c5, ?_, World.ownsRow_nil _ _ _ _, ?_⟩, Bk.far hr5 (by simpa using hrc) _, ((Two.refl w rb C).grown hg5 (fun g e => by cases e; exact .inr (.inl rfl))).grown (grown_set w1 ⟨C, 4, none⟩ _) (fun g e => by cases e; exact .inr (.inr rfl))⟩
    · have := b1.set 4 (.slice A5 n c5)
      rw [Hlk.out]
      exact this
    · have := own_setBk ho5 b1 (by decide) 4 (.slice A5 n c5)
      rw [Hlk.out]
      exact this
  clear ho5 hr5 hg5 b1
  go_wp2
  go_end0
  exact ⟨rfl, HO.out⟩
set_option maxRecDepth 100000 in
set_option maxHeartbeats 4000000 in
theorem out_pair (w : World) (C rb p : Nat) (err : Int) (v0 v1 v2 : Value) (A : Option Addr) (n c : Nat) (ws : List P3) (hC : Bk w C tRule #[v0, v1, v2, .slice none 0 0, .slice none 0 0, .int .i64 0]) (hR : Rdr w rb p err)
    (hw : RdT w tWd A n 3 (c3s ws)) (hl : ∀ x ∈ ws, x.2.2.length ≤ 1000000) {t : B} (ht : txts ws = [t]) :
    Calls Tryz.prog 138 #[.pointer (some ⟨rb, 0, none⟩), .int .i64 6, .slice A n c, .pointer (some ⟨C, 0, none⟩)] w fun e w' => e = .returned (.tuple #[]) ∧ OutR w C rb p v0 v1 v2 (eNum err t) [] [] (numV t) w' := by
  have hrc : rb ≠ C := fun e => by
    subst e
    have := (bk_one hR hC).1
    revert this
    decide
  obtain rfl : n = 1 := by have := txts_len ws; rw [ht] at this; have h2 := hw.rd.len3; simp only [List.length_cons, List.length_nil] at this; omega
  obtain ⟨b, o, x, y, z, rfl, hbl, hpz, q1, q2, q3⟩ := hw.rd.at3 (k := 0) (by omega)
  have hz : z = t := by
    have := congrArg (fun l => l[0]?) ht
    simp only [txts, List.getElem?_map, hpz.out, Option.map_some] at this
    simpa using this
  subst hz
  have hzl : z.length ≤ 1000000 := hl _ (List.mem_of_getElem? hpz.out)
  have hcall := Lib.hid (number_ok w rb p err z hR hzl)
  have HC := Lib.hid hC
  have hzc : C < w.heap.size := hC.lt
  have q3' : w.cell? ⟨b, o + 2, none⟩ = some (.string ⟨z.toArray⟩) := by simpa using q3
  clear hC hR hw hl ht hpz q1 q2 hzl
  go_enter Tryz.func138, Tryz.ntmps138
  go_wp2_with fail
  refine hcall.out.mono ?_
  rintro e w1 ⟨rfl, hr5, hg5⟩
  have b1 : Bk w1 C tRule _ := Bk.kept2 hg5 HC.out (fun e => hrc e.symm)
  have k1 : w1.cell? ⟨C, 5, none⟩ = some (.int .i64 0) := b1.cell 5
  have y1 := b1.frozen 5
  have zc := b1.lt
  have HO : Hid (OutR w C rb p v0 v1 v2 (eNum err z) [] [] (numV z) (w1.setCell ⟨C, 5, none⟩ (.int .i64 (numV z)))) :=
    ⟨⟨none, 0, none, 0, b1.set 5 _, World.ownsRow_nil _ _ _ _, World.ownsRow_nil _ _ _ _⟩, Bk.far hr5 (by simpa using hrc) _, ((Two.refl w rb C).grown hg5 (fun g e => by cases e; exact .inr (.inl rfl))).grown (grown_set w1 ⟨C, 5, none⟩ _) (fun g e => by cases e; exact .inr (.inr rfl))⟩
  clear hr5 hg5 b1
  go_wp2
  go_end0
  exact ⟨rfl, HO.out⟩
set_option maxRecDepth 100000 in
set_option maxHeartbeats 4000000 in
theorem out_none (w : World) (C rb p : Nat) (kind err : Int) (v0 v1 v2 : Value) (A : Option Addr) (n c : Nat) (hC : Bk w C tRule #[v0, v1, v2, .slice none 0 0, .slice none 0 0, .int .i64 0]) (hR : Rdr w rb p err) (hk : kind ≠ 1 ∧ kind ≠ 2 ∧ kind ≠ 3 ∧ kind ≠ 5 ∧ kind ≠ 4 ∧ kind ≠ 6) :
    Calls Tryz.prog 138 #[.pointer (some ⟨rb, 0, none⟩), .int .i64 kind, .slice A n c, .pointer (some ⟨C, 0, none⟩)] w fun e w' => e = .returned (.tuple #[]) ∧ OutR w C rb p v0 v1 v2 err [] [] 0 w' := by
  obtain ⟨h1, h2, h3, h5, h4, h6⟩ := hk
  have e1 : (kind == 1) = false := by simpa using h1
  have e2 : (kind == 2) = false := by simpa using h2
  have e3 : (kind == 3) = false := by simpa using h3
  have e4 : (kind == 4) = false := by simpa using h4
  have e5 : (kind == 5) = false := by simpa using h5
  have e6 : (kind == 6) = false := by simpa using h6
  have HO : Hid (OutR w C rb p v0 v1 v2 err [] [] 0 w) := ⟨⟨none, 0, none, 0, hC, World.ownsRow_nil _ _ _ _, World.ownsRow_nil _ _ _ _⟩, hR, Two.refl _ _ _⟩
  clear hC hR h1 h2 h3 h4 h5 h6
  go_enter Tryz.func138, Tryz.ntmps138
  go_wp2
  go_end0
  exact ⟨rfl, HO.out⟩
end Go.Proofs.YtkijckccfookeaaGreatDoor
