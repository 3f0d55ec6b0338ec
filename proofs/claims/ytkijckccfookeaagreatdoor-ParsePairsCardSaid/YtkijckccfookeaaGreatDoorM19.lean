/- parse: feature. -/
import Derived.Test.YtkijckccfookeaaGreatDoorPaN
import Derived.Test.YtkijckccfookeaaGreatDoorM17
import Derived.Test.YtkijckccfookeaaGreatDoorPaK
namespace Go.Proofs.YtkijckccfookeaaGreatDoor
open Go.RowKit
attribute [-go_sem] Builtin.append_

theorem own_setBk {w : World} {base : Nat} {e t : TypeId} {s : Nat} {v : Value} {n : Nat} {xs : List Value} (h : w.ownsRow base e s v n xs) {g : Nat} {cs : Array Value} (hb : Bk w g t cs) (hne : t ≠ e) (i : Nat) (u : Value) : (w.setCell ⟨g, i, none⟩ u).ownsRow base e s v n xs :=
  h.kept (grown_set w ⟨g, i, none⟩ u) (own_ne_bk h hb hne)
set_option maxRecDepth 100000 in
set_option maxHeartbeats 4000000 in
theorem readFeature_ok (w : World) (Bd p gm cm : Nat) (gl : Gl) (s : PS) (rv : Rows) (K : Nat) (A : Option Addr) (n c : Nat) (ws : List P3) (t : B) (l : List B) (hP : PSt w Bd p gm cm gl s rv K) (hL : LnAt w A n ws) (hT : txts ws = t :: l) (hK : K ≤ 10000000000) (hc : n ≤ c) :
    Calls Tryz.prog 90 #[.pointer (some ⟨p, 0, none⟩), .slice A n c] w (StPost w Bd p gm cm gl (K + n) (rFeature s l)) := by
  have hn : n = l.length + 1 := by rw [← hL.length]; exact txts_cons hT
  have hB := hP.size
  have hnn := hL.few
  cases l with
  | nil =>
    have HR : Hid (rFeature s [] = .error 22) := rfl
    simp only [List.length_nil] at hn
    subst hn
    clear hP hL hT hc
    go_enter Tryz.func90, Tryz.ntmps90
    go_wp2
    go_ret
    exact StPost.bad HR.out (Below.refl _ _)
  | cons t1 r =>
    obtain ⟨A', hsub, hrd, hlen⟩ := hL.sub hc 2 2 rfl (by simp at hn; omega)
    obtain ⟨b, o, rfl, hb, q1, hz1⟩ := hL.word (k := 1) (t := t1) (by rw [hT]; rfl) (d := 3) rfl
    have HP := Lib.hid hP
    have hpb : p < w.heap.size := hP.par.lt
    obtain ⟨A0, c0, hv⟩ := hP.slice (i := 3) (by decide)
    have kp : w.cell? ⟨p, 4, none⟩ = some (rv 3).v := hP.par.cell 4
    rw [hv] at kp
    have hfew := hP.few 3 (by decide)
    have HN1 := Lib.hid (fun w rb er h => name_ok w rb p er t1 h)
    have hrest : txts (ws.drop 2) = r := by rw [txts_drop, hT]; rfl
    have hns := Lib.hid (fun w1 rb (hr : Rdr w1 rb p (eName 0 t1)) (hb : Below w.heap.size w w1) => numbers_ok w1 rb p (eName 0 t1) A' (n - 2) (c - 2) (ws.drop 2) hr (hrd.below hb) hlen (by omega))
    rw [hrest] at hns
    have HR : Hid (rFeature s (t1 :: r) = fin (eNums (eName 0 t1) r) { s with f := { s.f with features := s.f.features ++ [⟨t1, r.map numV⟩] } }) := rfl
    have hfl := Lib.hid (fun (w : World) S => int_fl w S (r.map numV) (nums_i64 r))
    have hlm : Hid (n - 2 = (r.map numV).length) := by show _ = _; simp at hn ⊢; omega
    have hn2 : 2 ≤ n := by simp at hn; omega
    have en : ((n : Int) < 2) = False := by simp; omega
    clear hP hL hT hrd hlen hn hz1 hrest
    go_enter Tryz.func90, Tryz.ntmps90
    go_wp2_with fail
    refine (read_ok w p).mono ?_
    rintro e w1 ⟨rfl, hr1, hb1⟩
    obtain ⟨hc1, hf1⟩ := bcell hb1
    have p1_1 : w1.cell? ⟨b, o + 3 + 2, none⟩ = some (.string ⟨t1.toArray⟩) := (hc1 _ _ hb).trans q1
    have hl1 := hr1.lt
    have hs1 := hb1.size
    have hbl : b < w1.heap.size := by omega
    have hbc : b ≠ w1.heap.size := by omega
    have hpc : p ≠ w1.heap.size := by omega
    have Hr1 := Lib.hid (hr1.alloc (.cells #[.string ⟨#[]⟩, .slice none 0 0] 97))
    have Hb1 := Lib.hid (hb1.alloc hs1 (.cells #[.string ⟨#[]⟩, .slice none 0 0] 97))
    have HK1 : Hid (Bk (w1.alloc (.cells #[.string ⟨#[]⟩, .slice none 0 0] 97)) w1.heap.size 97 #[.string ⟨#[]⟩, .slice none 0 0]) := Bk.new _ _ _
    clear hr1 hb1 hc1 hf1
    go_wp2_with fail
    refine (HN1.out _ _ _ (by exact Hr1.out)).mono ?_
    rintro e w2 ⟨rfl, hr2, hg2⟩
    have hb2 := below_rdr Hb1.out hg2 (Nat.le_refl _)
    have hk2 : Bk w2 w1.heap.size 97 #[.string ⟨#[]⟩, .slice none 0 0] := Bk.kept2 hg2 HK1.out (by omega)
    have k2_0 : w2.cell? ⟨w1.heap.size, 0, none⟩ = some (.string ⟨#[]⟩) := hk2.cell 0
    have y2 := hk2.frozen 0
    have hs2 := hk2.lt
    have Hr2 : Hid (Rdr (w2.setCell ⟨w1.heap.size, 0, none⟩ (.string ⟨t1.toArray⟩)) w.heap.size p (eName 0 t1)) := Bk.far hr2 (by simp; omega) _
    have Hb2 := Lib.hid (hb2.setCell (p := ⟨w1.heap.size, 0, none⟩) (by simp; omega) (.string ⟨t1.toArray⟩))
    have HK2 : Hid (Bk (w2.setCell ⟨w1.heap.size, 0, none⟩ (.string ⟨t1.toArray⟩)) w1.heap.size 97 #[.string ⟨t1.toArray⟩, .slice none 0 0]) := hk2.set 0 _
    clear hr2 hg2 hb2 hk2
    go_wp2_with fail
    refine (hns.out _ _ (by exact Hr2.out) (by exact Hb2.out)).mono ?_
    rintro e w3 ⟨v, rfl, A4, c4, rfl, ho4, hr4, hg4⟩
    have hb3 := below_rdr Hb2.out hg4 (Nat.le_refl _)
    have hk3 : Bk w3 w1.heap.size 97 #[.string ⟨t1.toArray⟩, .slice none 0 0] := Bk.kept2 hg4 HK2.out (by omega)
    have k3_1 : w3.cell? ⟨w1.heap.size, 1, none⟩ = some (.slice none 0 0) := hk3.cell 1
    have y3 := hk3.frozen 1
    obtain ⟨W1, hW1⟩ : ∃ W1, w3.setCell ⟨w1.heap.size, 1, none⟩ (.slice A4 (n - 2) c4) = W1 := ⟨_, rfl⟩
    have Hr3 : Rdr W1 w.heap.size p (eNums (eName 0 t1) r) := hW1 ▸ Bk.far hr4 (by simp; omega) _
    have Hb3 : Below w.heap.size w W1 := hW1 ▸ (hb3.setCell (p := ⟨w1.heap.size, 1, none⟩) (by simp; omega) (.slice A4 (n - 2) c4))
    have HK3 : Bk W1 w1.heap.size 97 #[.string ⟨t1.toArray⟩, .slice A4 (n - 2) c4] := hW1 ▸ hk3.set 1 _
    have Ho4 := own_setBk ho4 hk3 (by decide) 1 (.slice A4 (n - 2) c4)
    rw [hW1] at Ho4
    have HPW := HP.out.below Hb3
    have a_p : W1.cell? ⟨p, 4, none⟩ = some (.slice A0 (rv 3).n c0) := ((bcell Hb3).1 _ _ hpb).trans kp
    have a_0 : W1.cell? ⟨w1.heap.size, 0, none⟩ = some (.string ⟨t1.toArray⟩) := HK3.cell 0
    have a_1 : W1.cell? ⟨w1.heap.size, 1, none⟩ = some (.slice A4 (n - 2) c4) := HK3.cell 1
    have zp : p < W1.heap.size := HPW.par.lt
    have zc : w1.heap.size < W1.heap.size := HK3.lt
    have hown := HPW.live.own 3 (by decide)
    rw [hv] at hown
    obtain ⟨A5, c5, w9, hrun, ho9, hg9, hl9⟩ := run_push elFeat 27 W1 Bd _ c0 A0 _ #[.string ⟨t1.toArray⟩, .slice A4 (n - 2) c4] rfl hown (by simp [Value.oneCell']) (by omega) HPW.size
    rw [← hv] at hg9 hl9
    have hp9 : Bk w9 p tPar (parCells s rv gm cm) := (HPW.row (i := 3) (by decide) (r := ⟨.slice A5 ((rv 3).n + 1) c5, _, _⟩) hg9 ho9 hl9).1
    have hr9 := Bk.grown Hr3 hg9 (HPW.live.own 3 (by decide)) (by decide)
    have x9 : w9.cell? ⟨p, 4, none⟩ = some (rv 3).v := hp9.cell 4
    have y9 := hp9.frozen 4
    have z9 : w9.cell? ⟨w.heap.size, 1, none⟩ = some (.int .i64 (eNums (eName 0 t1) r)) := hr9.cell 1
    have hel : FeatureR W1 (Fz W1 rv) [.string ⟨t1.toArray⟩, .slice A4 (n - 2) c4] ⟨t1, r.map numV⟩ := by
      rw [hlm.out] at Ho4 ⊢
      refine ⟨A4, c4, rfl, Sl.of_own' Ho4 (hfl.out _ _) (HP.out.fresh Ho4 ?_ (by decide)) (by decide)⟩
      simp
      omega
    have Hpush := Lib.hid (PSt.more_fts (m := 1) (K' := K + n) HPW hg9 ho9 hl9 (ys := [⟨t1, r.map numV⟩]) rfl (Fl.one (R := FeatureR) hel rfl) (by omega))
    have Hlow := Lib.hid ((Hb3.mono hB).trans (HPW.push_low (i := 3) (by decide) hg9 4 (.slice A5 ((rv 3).n + 1) c5) HPW.size))
    have HQ := Lib.hid (KQ.below (cm := cm) Hb3)
    clear hown ho9 hg9 hl9 hp9 hr9 HPW hel Ho4 Hb3 Hr3 HK3 ho4 hr4 hg4 hb3 hk3 Hr2 Hb2 HK2 Hr1 Hb1 HK1
    go_wp2_with fail
    try rw [hW1]
    go_region
    all_goals
      go_wp2
      go_ret
      exact StPost.fin HR.out Hlow.out (HQ.out.trans Hpush.out.2) Hpush.out.1
end Go.Proofs.YtkijckccfookeaaGreatDoor
/- parse: region. -/
namespace Go.Proofs.YtkijckccfookeaaGreatDoor
open Go.RowKit
attribute [-go_sem] Builtin.append_

def tentC (l : List Tent) : List Value := l.flatMap fun t => [.int .i64 t.start, .int .i64 t.peak, .int .i64 t.stop]
theorem tentC_app (a b : List Tent) : tentC (a ++ b) = tentC a ++ tentC b := by simp [tentC]
theorem tents_app : ∀ (a b : List Int), a.length % 3 = 0 → tentsOf (a ++ b) = tentsOf a ++ tentsOf b
  | [], b, _ => rfl
  | [x], b, h => by simp at h
  | [x, y], b, h => by simp at h
  | x :: y :: z :: r, b, h => by
    have h2 : r.length % 3 = 0 := by simp only [List.length_cons] at h; omega
    show ⟨x, y, z⟩ :: tentsOf (r ++ b) = ⟨x, y, z⟩ :: (tentsOf r ++ tentsOf b)
    rw [tents_app r b h2]
theorem tents_i64 : ∀ (a : List Int), (∀ x ∈ a, I64 x) → ∀ t ∈ tentsOf a, I64 t.start ∧ I64 t.peak ∧ I64 t.stop
  | [], _, t, ht => by simp [tentsOf] at ht
  | [x], _, t, ht => by simp [tentsOf] at ht
  | [x, y], _, t, ht => by simp [tentsOf] at ht
  | x :: y :: z :: r, h, t, ht => by
    have ht : t ∈ ⟨x, y, z⟩ :: tentsOf r := ht
    rcases List.mem_cons.1 ht with rfl | ht
    · exact ⟨h x (by simp), h y (by simp), h z (by simp)⟩
    · exact tents_i64 r (fun u hu => h u (by simp [hu])) t ht
theorem tents_len : ∀ (a : List Int), (tentsOf a).length ≤ a.length
  | [] => Nat.le_refl _
  | [x] => by simp [tentsOf]
  | [x, y] => by simp [tentsOf]
  | x :: y :: z :: r => by
    show (⟨x, y, z⟩ :: tentsOf r : List Tent).length ≤ _
    have := tents_len r
    simp only [List.length_cons]
    omega
theorem tent_fl (w : World) (S : Bs) (l : List Tent) (h : ∀ t ∈ l, I64 t.start ∧ I64 t.peak ∧ I64 t.stop) : Fl TentR 3 w S (tentC l) l := by
  induction l with
  | nil => exact Fl.nil
  | cons x r ih =>
    obtain ⟨h1, h2, h3⟩ := h x (by simp)
    exact (Fl.one (R := TentR) (cs := [.int .i64 x.start, .int .i64 x.peak, .int .i64 x.stop]) ⟨rfl, h1, h2, h3⟩ rfl).append (ih (fun y hy => h y (by simp [hy])))
theorem own_slot {w : World} {base : Nat} {e : TypeId} {size n c : Nat} {A : Option Addr} {xs : List Value} (h : w.ownsRow base e size (.slice A n c) n xs) : xs.length = n * size := h.1
theorem three {l : List Int} (h : l.length % 3 = 0) (h0 : l ≠ []) : ∃ x y z r, l = x :: y :: z :: r := by
  match l, h, h0 with
  | [], _, h0 => exact absurd rfl h0
  | [x], h, _ => simp at h
  | [x, y], h, _ => simp at h
  | x :: y :: z :: r, _, _ => exact ⟨x, y, z, r, rfl⟩
theorem RdT.apart {w w2 : World} {t e : TypeId} {A : Option Addr} {n size base s2 n2 c2 : Nat} {A2 : Option Addr} {cs xs : List Value} (h : RdT w t A n size cs) (ho : w.ownsRow base e s2 (.slice A2 n2 c2) n2 xs) (hg : w.grownBy w2 (Value.slice A2 n2 c2).ownBlock) (hne : t ≠ e) : RdT w2 t A n size cs :=
  ⟨h.1, fun h0 => by
    obtain ⟨b, o, cur, e1, hb, hr⟩ := h.2 h0
    exact ⟨b, o, cur, e1, Bk.grown hb hg ho hne, hr⟩⟩
theorem RdT.farBk {w : World} {t e : TypeId} {A : Option Addr} {n size g : Nat} {cs : List Value} {cur2 : Array Value} (h : RdT w t A n size cs) (hb : Bk w g e cur2) (hne : t ≠ e) (i : Nat) (u : Value) : RdT (w.setCell ⟨g, i, none⟩ u) t A n size cs :=
  ⟨h.1, fun h0 => by
    obtain ⟨b, o, cur, e1, hb1, hr⟩ := h.2 h0
    refine ⟨b, o, cur, e1, Bk.far hb1 (fun e' => ?_) u, hr⟩
    subst e'
    exact hne (bk_one hb1 hb).1⟩
abbrev tReg : TypeId := 104
/-- the state of the loop over a region's numbers -/
def RegSt (w : World) (rb p D : Nat) (er : Int) (nums : List Int) (v : Value) (wr : World) : Prop :=
  ∃ (dn rs : List Int) (A : Option Addr) (m c : Nat) (At : Option Addr) (kt ct : Nat), v = .slice A m c ∧ nums = dn ++ rs ∧ dn.length % 3 = 0 ∧ rs.length % 3 = 0 ∧ m = rs.length ∧ m ≤ c ∧ RdT wr 3 A m 1 (cIs rs) ∧
    wr.ownsRow w.heap.size 101 3 (.slice At kt ct) kt (tentC (tentsOf dn)) ∧ kt = (tentsOf dn).length ∧ Bk wr D tReg #[.slice At kt ct] ∧ Rdr wr rb p er ∧ Below w.heap.size w wr
theorem cIs_cons (x : Int) (l : List Int) : cIs (x :: l) = .int .i64 x :: cIs l := rfl
theorem RegSt.open {w wr : World} {rb p D : Nat} {er : Int} {nums : List Int} {v : Value} (h : RegSt w rb p D er nums v wr) (hD : w.heap.size ≤ D) : ∃ A m c, v = .slice A m c ∧ ((m = 0 ∧ ∃ At kt ct, wr.ownsRow w.heap.size 101 3 (.slice At kt ct) kt (tentC (tentsOf nums)) ∧ kt = (tentsOf nums).length ∧ Bk wr D tReg #[.slice At kt ct] ∧ Rdr wr rb p er ∧ Below w.heap.size w wr) ∨
    ∃ b o x y z At kt ct xs, A = some ⟨b, o, none⟩ ∧ b < wr.heap.size ∧ wr.cell? ⟨b, o, none⟩ = some (.int .i64 x) ∧ wr.cell? ⟨b, o + 1, none⟩ = some (.int .i64 y) ∧ wr.cell? ⟨b, o + 2, none⟩ = some (.int .i64 z) ∧ 3 ≤ m ∧ wr.ownsRow w.heap.size 101 3 (.slice At kt ct) kt xs ∧ kt ≤ nums.length ∧ Bk wr D tReg #[.slice At kt ct] ∧ Below w.heap.size w wr ∧
      ∀ A5 c5 w9, w9.ownsRow w.heap.size 101 3 (.slice A5 (kt + 1) c5) (kt + 1) (xs ++ [.int .i64 x, .int .i64 y, .int .i64 z]) → wr.grownBy w9 (Value.slice At kt ct).ownBlock → RegSt w rb p D er nums (.slice (if c = 3 then A else A.map (·.add (3 * 1))) (m - 3) (c - 3)) (w9.setCell ⟨D, 0, none⟩ (.slice A5 (kt + 1) c5))) := by
  obtain ⟨dn, rs, A, m, c, At, kt, ct, rfl, h1, h2, h3, h4, h5, h6, h7, h8, h9, h10, h11⟩ := h
  refine ⟨A, m, c, rfl, ?_⟩
  by_cases hr : rs = []
  · subst hr
    rw [List.append_nil] at h1
    subst h1
    exact .inl ⟨h4, At, kt, ct, h7, h8, h9, h10, h11⟩
  · obtain ⟨x, y, z, r, rfl⟩ := three h3 hr
    simp only [List.length_cons] at h4 h3
    obtain ⟨b, o, cur, e1, hb, hc⟩ := h6.2 (by omega)
    refine .inr ⟨b, o, x, y, z, At, kt, ct, _, e1, hb.lt, (hb.cell o).trans (hc 0 _ rfl), (hb.cell _).trans (hc 1 _ rfl), (hb.cell _).trans (hc 2 _ rfl), by omega, h7, ?_, h9, h11, ?_⟩
    · rw [h8, h1, List.length_append]
      have := tents_len dn
      omega
    · intro A5 c5 w9 ho hg
      have hb9 := Bk.grown h9 hg h7 (by decide)
      refine ⟨dn ++ [x, y, z], r, _, _, _, A5, kt + 1, c5, rfl, by rw [h1]; simp, by simp only [List.length_append, List.length_cons, List.length_nil]; omega, by omega, by omega, by omega, ?_, ?_, ?_, hb9.set 0 _, ?_, ?_⟩
      · exact ((h6.apart h7 hg (by decide)).farBk hb9 (by decide) 0 _).sub (by omega) h5
      · rw [tents_app dn _ h2, tentC_app]
        exact own_setBk ho hb9 (by decide) 0 _
      · rw [tents_app dn _ h2, List.length_append, h8]
        rfl
      · have := Bk.grown h10 hg h7 (by decide)
        refine Bk.far this (fun e => ?_) _
        subst e
        have := (bk_one this hb9).1
        revert this
        decide
      · exact (h11.grown hg h11.size (fun g e => (h7.lt g e).1)).setCell hD _
set_option maxRecDepth 100000 in
set_option maxHeartbeats 4000000 in
theorem readRegion_ok (w : World) (Bd p gm cm : Nat) (gl : Gl) (s : PS) (rv : Rows) (K : Nat) (A : Option Addr) (n c : Nat) (ws : List P3) (t : B) (l : List B) (hP : PSt w Bd p gm cm gl s rv K) (hL : LnAt w A n ws) (hT : txts ws = t :: l) (hK : K ≤ 10000000000) (hc : n ≤ c) :
    Calls Tryz.prog 75 #[.pointer (some ⟨p, 0, none⟩), .slice A n c] w (StPost w Bd p gm cm gl (K + n) (rRegion s l)) := by
  have hn : n = l.length + 1 := by rw [← hL.length]; exact txts_cons hT
  have hB := hP.size
  have hnn := hL.few
  by_cases h3 : l.length % 3 = 0
  · obtain ⟨A', hsub, hrd, hlen⟩ := hL.sub hc 1 1 rfl (by omega)
    have HP := Lib.hid hP
    have hpb : p < w.heap.size := hP.par.lt
    obtain ⟨A0, c0, hv⟩ := hP.slice (i := 5) (by decide)
    have kp : w.cell? ⟨p, 6, none⟩ = some (rv 5).v := hP.par.cell 6
    rw [hv] at kp
    have hfew := hP.few 5 (by decide)
    have hns := Lib.hid (fun w1 rb (hr : Rdr w1 rb p 0) (hb : Below w.heap.size w w1) => numbers_ok w1 rb p 0 A' (n - 1) (c - 1) (ws.drop 1) hr (hrd.below hb) hlen (by omega))
    rw [txts_rest hT] at hns
    have HR : Hid (rRegion s l = fin (eNums 0 l) { s with f := { s.f with regions := s.f.regions ++ [⟨tentsOf (l.map numV)⟩] } }) := by
      show _ = _
      unfold rRegion
      rw [if_neg (by omega)]
    have hI := Lib.hid (tents_i64 _ (nums_i64 l))
    have hnl : Hid ((l.map numV).length = n - 1) := by show _ = _; simp; omega
    have hnl3 : Hid ((l.map numV).length % 3 = 0) := by show _ = _; simp; omega
    have er : (((n : Int) - 1).tmod 3 != 0) = false := by rw [show (n : Int) - 1 = (l.length : Nat) by omega]; rw [Int.tmod_eq_emod_of_nonneg (by omega)]; simp; omega
    have er2 : (((n : Int) - 1) % 3 != 0) = false := by rw [show (n : Int) - 1 = (l.length : Nat) by omega]; simp; omega
    have hn1 : 1 ≤ n := by omega
    generalize eNums 0 l = er0 at *
    generalize l.map numV = nums at *
    clear hP hL hT hrd hlen hn h3
    go_enter Tryz.func75, Tryz.ntmps75
    go_wp2_with fail
    refine (read_ok w p).mono ?_
    rintro e w1 ⟨rfl, hr1, hb1⟩
    have hl1 := hr1.lt
    have hs1 := hb1.size
    have Hr1 := Lib.hid (hr1.alloc (.cells #[.slice none 0 0] tReg))
    have Hb1 := Lib.hid (hb1.alloc hs1 (.cells #[.slice none 0 0] tReg))
    have HK1 : Hid (Bk (w1.alloc (.cells #[.slice none 0 0] tReg)) w1.heap.size tReg #[.slice none 0 0]) := Bk.new _ _ _
    clear hr1 hb1
    go_wp2_with fail
    refine (hns.out _ _ (by exact Hr1.out) (by exact Hb1.out)).mono ?_
    rintro e w2 ⟨v, rfl, A4, c4, rfl, ho4, hr4, hg4⟩
    have hk2 : Bk w2 w1.heap.size tReg #[.slice none 0 0] := Bk.kept2 hg4 HK1.out (by omega)
    have HS : Hid (RegSt w w.heap.size p w1.heap.size er0 nums (.slice A4 (n - 1) c4) w2) := ⟨[], nums, A4, n - 1, c4, none, 0, 0, rfl, rfl, rfl, hnl3.out, hnl.out.symm, own_cap ho4, own_rdT ho4, World.ownsRow_nil _ _ _ _, rfl, hk2, hr4, below_rdr Hb1.out hg4 (Nat.le_refl _)⟩
    clear ho4 hr4 hg4 hk2 Hr1 Hb1 HK1 hsub hns
    go_wp2_with fail
    go_loopw [7] (fun v wr => RegSt w w.heap.size p w1.heap.size er0 nums v wr) (fun v _ => match v with | .slice _ k _ => k | _ => 0)
    case atStart => exact HS.out
    case round =>
      obtain ⟨A5, m, c5, rfl, ⟨rfl, At, kt, ct, h7, h8, h9, h10, h11⟩ | ⟨b5, o5, x, y, z, At, kt, ct, xs, rfl, hb5, z0, z1, z2, hm, h7, h8, h9, h11, hnx⟩⟩ := RegSt.open hrel hs1
      · have HPW := HP.out.below h11
        have a_p : wr.cell? ⟨p, 6, none⟩ = some (.slice A0 (rv 5).n c0) := ((bcell h11).1 _ _ hpb).trans kp
        have a_0 : wr.cell? ⟨w1.heap.size, 0, none⟩ = some (.slice At kt ct) := h9.cell 0
        have zp : p < wr.heap.size := HPW.par.lt
        have zc : w1.heap.size < wr.heap.size := h9.lt
        have hown := HPW.live.own 5 (by decide)
        rw [hv] at hown
        obtain ⟨A6, c6, w9, hrun, ho9, hg9, hl9⟩ := run_push elRegion 29 wr Bd _ c0 A0 _ #[.slice At kt ct] rfl hown (by simp [Value.oneCell']) (by omega) HPW.size
        rw [← hv] at hg9 hl9
        have hp9 : Bk w9 p tPar (parCells s rv gm cm) := (HPW.row (i := 5) (by decide) (r := ⟨.slice A6 ((rv 5).n + 1) c6, _, _⟩) hg9 ho9 hl9).1
        have hr9 := Bk.grown h10 hg9 (HPW.live.own 5 (by decide)) (by decide)
        have x9 : w9.cell? ⟨p, 6, none⟩ = some (rv 5).v := hp9.cell 6
        have y9 := hp9.frozen 6
        have z9 : w9.cell? ⟨w.heap.size, 1, none⟩ = some (.int .i64 er0) := hr9.cell 1
        have hel : RegionR wr (Fz wr rv) [.slice At kt ct] ⟨tentsOf nums⟩ := by
          rw [h8] at h7 ⊢
          exact ⟨At, ct, rfl, Sl.of_own' h7 (tent_fl _ _ _ hI.out) (HP.out.fresh h7 (Nat.le_refl _) (by decide)) (by decide)⟩
        have Hpush := Lib.hid (PSt.more_rgs (m := 1) (K' := K + n) HPW hg9 ho9 hl9 (ys := [⟨tentsOf nums⟩]) rfl (Fl.one (R := RegionR) hel rfl) (by omega))
        have Hlow := Lib.hid ((h11.mono hB).trans (HPW.push_low (i := 5) (by decide) hg9 6 (.slice A6 ((rv 5).n + 1) c6) HPW.size))
        have HQ := Lib.hid (KQ.below (cm := cm) h11)
        clear hown ho9 hg9 hl9 hp9 hr9 HPW hel h7 h9 h10 h11 HS hrel h8
        go_wp2_with fail
        go_region
        all_goals
          go_wp2
          go_ret
          exact StPost.fin HR.out Hlow.out (HQ.out.trans Hpush.out.2) Hpush.out.1
      · have a_0 : wr.cell? ⟨w1.heap.size, 0, none⟩ = some (.slice At kt ct) := h9.cell 0
        have zc : w1.heap.size < wr.heap.size := h9.lt
        have hkt := hnl.out
        obtain ⟨A6, c6, w9, hrun, ho9, hg9, hl9⟩ := run_push elTent 102 wr w.heap.size _ ct At _ #[.int .i64 x, .int .i64 y, .int .i64 z] rfl h7 (by simp [Value.oneCell']) (by omega) (by omega)
        have hb9 := Bk.grown h9 hg9 h7 (by decide)
        have x9 : w9.cell? ⟨w1.heap.size, 0, none⟩ = some (.slice At kt ct) := hb9.cell 0
        have y9 := hb9.frozen 0
        have Hnx := Lib.hid (hnx _ _ _ ho9 hg9)
        have hsl := run_sub Tryz.underlying22 sizeInt (some ⟨b5, o5, none⟩) m c5 3 3 rfl hm
        clear ho9 hg9 hl9 h7 h9 h11 HS hrel h8 hnx hb9 hkt
        go_wp2_with fail
        go_region
        all_goals
          go_wp2
          go_roundw
          case rel => exact Hnx.out
          case measure => simp; omega
  · have HR : Hid (rRegion s l = .error 22) := by
      show _ = _
      unfold rRegion
      rw [if_pos h3]
    have er : (((n : Int) - 1).tmod 3 != 0) = true := by rw [show (n : Int) - 1 = (l.length : Nat) by omega]; rw [Int.tmod_eq_emod_of_nonneg (by omega)]; simp; omega
    have er2 : (((n : Int) - 1) % 3 != 0) = true := by rw [show (n : Int) - 1 = (l.length : Nat) by omega]; simp; omega
    clear hP hL hT hc h3 hn
    go_enter Tryz.func75, Tryz.ntmps75
    go_wp2
    go_ret
    exact StPost.bad HR.out (Below.refl _ _)
end Go.Proofs.YtkijckccfookeaaGreatDoor
