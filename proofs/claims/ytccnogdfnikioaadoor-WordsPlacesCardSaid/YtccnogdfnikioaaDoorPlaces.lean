/- fleuronlaw05.WordsPlaces returns true. -/
import Derived.Test.YtccnogdfnikioaaDoorShown
import Derived.Test.YtccnogdfnikioaaDoorSets
import Derived.Test.YtccnogdfnikioaaDoorPurePlaces
import Derived.IntWalk
import Derived.Laws.OwnMore
namespace Go.Proofs.YtccnogdfnikioaaDoor
open Go.RowKit

theorem infoS3 : (Tryd.prog.info? 3).map (fun i => (i.zero, i.size, i.bytes)) = some (some (.int .i64 0), 1, 8) := by kernel_rfl
theorem btB2 {a b c : World} (h : Below a.heap.size a b) (k : Below b.heap.size b c) : Below a.heap.size a c := h.trans (k.mono h.size)
def cNs (l : List Nat) : List Value := cIs (l.map fun n : Nat => (n : Int))
theorem cNs_get (l : List Nat) (k n : Nat) (h : l[k]? = some n) : (cNs l)[k]? = some (.int .i64 (n : Int)) := cIs_get _ _ _ (by simp [h])
theorem cNs_app (a b : List Nat) : cNs (a ++ b) = cNs a ++ cNs b := by simp [cNs, cIs]
theorem starts_next (l : B) (k : Nat) (c : UInt8) (h : l[k]? = some c) : startsL (l.take (k + 1)) = startsL (l.take k) ++ if c = 10 then [k + 1] else [] := by
  have hk := (List.getElem?_eq_some_iff.1 h).1
  rw [take_snoc l k c h]
  simp only [startsL, tens_snoc, List.cons_append, List.length_take, Nat.min_eq_left (Nat.le_of_lt hk), Nat.zero_add]
set_option maxRecDepth 100000 in
set_option maxHeartbeats 8000000 in
theorem wordsPlaces_ok (w : World) (s : B) : Calls Tryd.prog 6 #[.string ⟨s.toArray⟩] w fun e w' => e = .returned (.bool true) ∧ Below w.heap.size w w' := by
  obtain ⟨i0, hi0, hz0, hz1, hz2⟩ := info_parts infoS3
  have hlen : (s.take 300).length ≤ 300 := by simp; omega
  have Hfew := Lib.hid (fun w => few_ok w s)
  generalize s.take 300 = l at *
  obtain ⟨hb1, hb2⟩ := linesL_bound l
  have HB := Lib.hid hb2
  have HP := Lib.hid (places l)
  have HL := Lib.hid (fun w => lines_ok w l (by omega))
  clear hb2
  generalize linesL l = rows at *
  go_enter Tryd.func6, Tryd.ntmps6
  go_wp2_with (first
    | (go_at_call 12; refine (shown_ok _).mono ?_; rintro e w1 ⟨rfl, hs1⟩)
    | (go_at_call 15; refine (Hfew.out _).mono ?_; rintro e w' ⟨rfl, rfl⟩)
    | (go_at_call 14; refine (HL.out _).mono ?_; rintro e w2 ⟨v2, rfl, hret2⟩; obtain ⟨A2, c2, rfl, hat2, hs2⟩ := RowsAt.of hret2; clear hret2))
  have hP : (w2.alloc (.cells #[.int .i64 0] 3)).ownsRow w2.heap.size 3 1 (.slice (some ⟨w2.heap.size, 0, none⟩) 1 1) 1 [.int .i64 0] := World.ownsRow_lit w2 #[.int .i64 0] 1 (Nat.le_refl _) (by simp [maxLen]) rfl
  have HP0 := Lib.hid hP
  have hb12 : Hid (Below w.heap.size w w2) := btB2 hs1 hs2
  clear hP hs1 hs2
  go_loopw [6, 7] (fun v i wr => ∃ k : Nat, k ≤ l.length ∧ i = .int .i64 k ∧ wr.ownsRow w2.heap.size 3 1 v (startsL (l.take k)).length (cNs (startsL (l.take k))) ∧ Below w2.heap.size w2 wr) (fun _ i _ => l.length - (intOf i).toNat)
  case atStart => exact ⟨0, by omega, rfl, HP0.out, (Below.refl _ _).alloc (Nat.le_refl _) _⟩
  case round =>
    obtain ⟨k, hk, rfl, how, hbo⟩ := hrel
    obtain ⟨A1, c1, rfl, -⟩ := Rd.of_own how
    have hbos := hbo.size
    by_cases hlt : k < l.length
    · obtain ⟨c, hc⟩ : ∃ c, l[k]? = some c := ⟨_, List.getElem?_eq_getElem hlt⟩
      have hb := byte_at l k c hc hlt
      have hnx := starts_next l k c hc
      have hsl := starts_len (l.take k)
      rw [List.length_take, Nat.min_eq_left hk] at hsl
      by_cases h10 : c = 10
      · subst h10
        rw [if_pos rfl] at hnx
        have Hnx := Lib.hid hnx
        clear hnx hc
        generalize startsL (l.take k) = sl at *
        go_wp2_with (at_builtin; refine wpList_append_any _ rfl (.tmp 32) (.tmp 35) 44 rfl w2.heap.size 3 i0 _ 1 8 Tryd.underlying44 hi0 hz0 hz1 hz2 rfl (by decide) (.slice A1 sl.length c1) sl.length _ rfl (how.alloc _) (wr.heap.size + 1) (some ⟨wr.heap.size, 0, none⟩) 1 1 [.int .i64 ((k : Int) + 1)] rfl (by exact Rd.newAt _ _ (by simp) #[.int .i64 ((k : Int) + 1)] 3 1 1 rfl) (by simp [Value.oneCell']) (by simp only [maxLen]; omega) (by omega) (by simp; omega) ?_; intro v5 w5 hown5 hg5 _; obtain ⟨A5, c5, rfl, -⟩ := Rd.of_own hown5)
        go_roundw
        case rel =>
          refine ⟨k + 1, by omega, by go_num, ?_, (hbo.alloc (by omega) _).grown hg5 (by simp; omega) (fun g hg => (how.lt g hg).1)⟩
          rw [Hnx.out, List.length_append, cNs_app]
          exact hown5
        case measure => simp [intOf]; omega
      · rw [if_neg h10, List.append_nil] at hnx
        have Hnx := Lib.hid hnx
        have h10' : ((c.toNat : Int) == 10) = false := by
          simp
          intro h
          exact h10 (UInt8.toNat_inj.1 (by show c.toNat = 10; omega))
        clear hnx hc
        generalize startsL (l.take k) = sl at *
        go_wp2_with fail
        go_roundw
        case rel => exact ⟨k + 1, by omega, by go_num, by rw [Hnx.out]; exact how, hbo⟩
        case measure => simp [intOf]; omega
    · obtain rfl : k = l.length := by omega
      rw [List.take_length] at how ⊢
      have hsl := starts_len l
      have hrdS := own_rdT how
      have hatR := hat2.below hbo
      have hb23 : Hid (Below w.heap.size w wr) := btB2 hb12.out hbo
      clear how hbo hat2 HP0
      generalize startsL l = sl at *
      obtain ⟨w3, hw3⟩ : ∃ w3, w3 = wr := ⟨_, rfl⟩
      subst hw3
      go_wp2_with fail
      go_loopw [8, 9] (fun wv i wx => ∃ k : Nat, k ≤ rows.length ∧ i = .int .i64 k ∧ wv = .int .i64 (wasL rows k) ∧ Below w3.heap.size w3 wx) (fun _ i _ => rows.length - (intOf i).toNat)
      case atStart => exact ⟨0, by omega, rfl, rfl, Below.refl _ _⟩
      case round =>
        obtain ⟨k, hk, rfl, rfl, hbx⟩ := hrel
        obtain ⟨wx, hwx⟩ : ∃ wx, wx = wr := ⟨_, rfl⟩
        subst hwx
        by_cases hlt : k < rows.length
        · obtain ⟨r, hr⟩ : ∃ r, rows[k]? = some r := ⟨_, List.getElem?_eq_getElem hlt⟩
          obtain ⟨ln, st, hl1, hl2, hst, hwas, hwas', hr0, hstl, hwords⟩ := HP.out k r hr
          obtain ⟨b, o, rfl, hb, hc⟩ := hatR (by omega)
          obtain ⟨B2, c2', p1, hrd⟩ := hc k r hr
          have hrl := HB.out k r hr
          have Hwas' := Lib.hid hwas'
          clear hwas'
          have Hwords := Lib.hid hwords
          generalize wasL rows k = was at *
          obtain ⟨x0, hx0⟩ : ∃ x0, r[0]? = some x0 := ⟨_, List.getElem?_eq_getElem hr0⟩
          obtain ⟨a0, t0, rfl, -⟩ := hwords 0 x0 hx0
          obtain ⟨b2, o2, rfl, hb2, x1, -, -⟩ := hrd.at3 hx0
          have hrdX := hrd.below hbx
          have p1x := (hbx.cell (p := ⟨b, o + k, none⟩) hb).trans p1
          have x1x := (hbx.cell (p := ⟨b2, o2, none⟩) hb2).trans x1
          obtain ⟨bs, os', rfl, hbs, hcs⟩ := hrdS.rd.2 (by omega)
          have q1 := hcs (ln - 1) _ (cNs_get _ _ _ hst)
          have zk : (k : Int) < (rows.length : Int) := by omega
          have zk0 : (0 : Int) ≤ (k : Int) := by omega
          have hne0 : ((r.length : Int) == 0) = false := beq_eq_false_iff_ne.2 (by omega)
          have hne1 : (r.length == 0) = false := beq_eq_false_iff_ne.2 (by omega)
          have d1 : decide ((ln : Int) ≤ was) = false := by simp; omega
          have d2 : decide ((sl.length : Int) < (ln : Int)) = false := by simp; omega
          have d2' : decide (sl.length < ln) = false := by simp; omega
          clear hc hr hwords hx0 hcs hst p1 x1 hrd
          go_wp2_with fail
          have HrdX := Lib.hid hrdX
          clear hrdX x1x d1 d2 d2' hne0 hne1
          have hbx' := Lib.hid hbx
          clear hbx
          go_loopw [11, 12] (fun av i wy => ∃ j : Nat, j ≤ r.length ∧ i = .int .i64 j ∧ av = .int .i64 (prevA r j) ∧ Below wx.heap.size wx wy) (fun _ i _ => r.length - (intOf i).toNat)
          case atStart => exact ⟨0, by omega, rfl, rfl, Below.refl _ _⟩
          case round =>
            obtain ⟨j, hj, rfl, rfl, hby⟩ := hrel
            have hbys := hby.size
            have hbxs := hbx'.out.size
            have p1y := (hby.cell (p := ⟨b, o + k, none⟩) (by simp; omega)).trans p1x
            by_cases hjl : j < r.length
            · obtain ⟨x, hx⟩ : ∃ x, r[j]? = some x := ⟨_, List.getElem?_eq_getElem hjl⟩
              obtain ⟨a, t, rfl, hW⟩ := Hwords.out j x hx
              have hpn : Hid (prevA r (j + 1) = (a : Int) + (t.length : Int)) := by simp [prevA, hx, Hid]
              obtain ⟨b3, o3, e3, hb3, y1, y2, y3⟩ := (HrdX.out.below hby).at3 hx
              cases e3
              have q1y := ((btB2 hbx'.out hby).cell (p := ⟨bs, os' + (ln - 1), none⟩) hbs).trans q1
              dsimp only at y1 y2 y3
              have zj : (j : Int) < (r.length : Int) := by omega
              have zj0 : (0 : Int) ≤ (j : Int) := by omega
              clear hx
              go_wp2_with fail
              obtain ⟨W, hWe⟩ : ∃ W, wr.alloc (.cells #[.int .i64 (ln : Int), .int .i64 (a : Int), .string ⟨t.toArray⟩] 35) = W := ⟨_, rfl⟩
              have hbW : Below wr.heap.size wr W := by rw [← hWe]; exact (Below.refl _ _).alloc (Nat.le_refl _) _
              have hbk : Bk W wr.heap.size 35 #[.int .i64 (ln : Int), .int .i64 (a : Int), .string ⟨t.toArray⟩] := by rw [← hWe]; exact Bk.new _ _ _
              have g1 : W.cell? ⟨wr.heap.size, 0, none⟩ = some (.int .i64 (ln : Int)) := hbk.cell 0
              have g2 : W.cell? ⟨wr.heap.size, 1, none⟩ = some (.int .i64 (a : Int)) := hbk.cell 1
              have g3 : W.cell? ⟨wr.heap.size, 2, none⟩ = some (.string ⟨t.toArray⟩) := hbk.cell 2
              have q1W := (hbW.cell (p := ⟨bs, os' + (ln - 1), none⟩) (by simp; omega)).trans q1y
              have hbxW := Lib.hid (btB2 hby hbW)
              obtain ⟨pos, ne, fit, sub, pre, all⟩ := hW
              rw [hWe]
              generalize wr.heap.size = h0 at *
              generalize prevA r j = pr at *
              obtain ⟨m, hm⟩ : ∃ m, ln - 1 = m := ⟨_, rfl⟩
              rw [hm] at q1W
              have hw0 : (ln : Int) - 1 = (m : Int) := by omega
              have hw0' : IntKind.i64.wrap ((ln : Int) - 1) = (m : Int) := by rw [IntWalk.i64_in _ (by omega)]; omega
              have zm : (m : Int) < (sl.length : Int) := by omega
              have zm0 : (0 : Int) ≤ (m : Int) := by omega
              obtain ⟨f, hf⟩ : ∃ f, st + a = f := ⟨_, rfl⟩
              have hw1 : (st : Int) + (a : Int) = (f : Int) := by omega
              have hw1' : IntKind.i64.wrap ((st : Int) + (a : Int)) = (f : Int) := by rw [IntWalk.i64_in _ (by omega)]; omega
              have Hf := Lib.hid hf
              clear hm p1y y1 y2 y3 q1y q1 hb3 hbk hbW hWe hby hf
              go_quiet (fail)
              obtain ⟨n1, hn1⟩ : ∃ n1, n1 = nq := ⟨_, rfl⟩
              subst hn1
              clear hw0 hw0' zm zm0 hw1 hw1' q1W
              obtain ⟨g, hg⟩ : ∃ g, f + t.length = g := ⟨_, rfl⟩
              have hfe := Hf.out
              have hgl : g ≤ l.length := by omega
              have hfg : f ≤ g := by omega
              have hsub : (ByteArray.mk l.toArray).extract f g = ⟨t.toArray⟩ := by
                rw [extract_list, List.drop_take, show g - f = t.length by omega, ← hfe, sub]
              have hw2 : (f : Int) + (t.length : Int) = (g : Int) := by omega
              have hw2' : IntKind.i64.wrap (g : Int) = (g : Int) := IntWalk.i64_in _ (by omega)
              have n2 : decide ((a : Int) ≤ pr) = false := by simp; omega
              have n4 : decide ((a : Int) < 0) = false := by simp
              have n5 : decide ((l.length : Int) < (g : Int)) = false := by simp; omega
              have n5' : decide (l.length < g) = false := by simp; omega
              have n3 : t.isEmpty = false := by cases t <;> simp_all
              have n6 : ∀ w, (Instr.slice 9 (.string ⟨l.toArray⟩) (some (.int .i64 (f : Int))) (some (.int .i64 (g : Int))) none).run Tryd.prog w = .ok (.string ⟨t.toArray⟩) w := fun w => by
                have z1 : (g : Int) ≤ ((ByteArray.mk l.toArray).size : Int) := by show (g : Int) ≤ ((l.toArray.size : Nat) : Int); rw [List.size_toArray]; omega
                rw [run_slice_string_if _ _ _ _ _ _ _ Tryd.underlying9, if_pos ⟨by omega, z1⟩, if_pos ⟨by omega, by omega⟩, Int.toNat_natCast, Int.toNat_natCast, hsub]
              have n7 : ∀ w, (binOp .neq 9 (.string ⟨t.toArray⟩) (.string ⟨t.toArray⟩)).run Tryd.prog w = .ok (.bool false) w := fun w => by
                go_simp
              have Hpre := Lib.hid pre
              have Hall := Lib.hid all
              have Hsub := Lib.hid sub
              have Hne := Lib.hid ne
              have Hg := Lib.hid hg
              have Hfe := Lib.hid hfe
              clear hg hfe hsub sub pre all ne Hf
              go_wp2_with fail
              go_quiet (fail)
              clear hw2 hw2' n2 n4 n5 n5' n3 n6 n7
              obtain ⟨V, hV⟩ : ∃ V, (W.drewN n1).drewN nq = V := ⟨_, rfl⟩
              have hbV : Hid (Below wx.heap.size wx V) := by rw [← hV]; exact below_drewN (below_drewN hbxW.out _) _
              have v1 : V.cell? ⟨h0, 0, none⟩ = some (.int .i64 (ln : Int)) := by rw [← hV]; exact g1
              have v2 : V.cell? ⟨h0, 1, none⟩ = some (.int .i64 (a : Int)) := by rw [← hV]; exact g2
              have v3 : V.cell? ⟨h0, 2, none⟩ = some (.string ⟨t.toArray⟩) := by rw [← hV]; exact g3
              rw [hV]
              clear hV g1 g2 g3 hbxW
              have hat' : (a = 0) ∨ (0 < a ∧ ∃ (e : Nat) (bb : UInt8), (f : Int) - 1 = (e : Int) ∧ l[e]? = some bb ∧ e < l.length ∧ (bb = 32 ∨ bb = 9)) := by
                by_cases ha : a = 0
                · exact .inl ha
                · obtain ⟨bb, h1, h2⟩ := Hpre.out (by omega)
                  rw [Hfe.out] at h1
                  have := Hfe.out
                  exact .inr ⟨by omega, f - 1, bb, by omega, h1, (List.getElem?_eq_some_iff.1 h1).1, h2⟩
              rcases hat' with rfl | ⟨ha, e, bb, he, hbb, hel, rfl | rfl⟩
              all_goals
                first
                  | (have hbt := byte_at l e _ hbb hel
                     have ze : (e : Int) < (l.length : Int) := by omega
                     have ze0 : (0 : Int) ≤ (e : Int) := by omega
                     clear hbb)
                  | skip
                go_wp2_with fail
                go_loopw [15] (fun i wz => ∃ q : Nat, q ≤ t.length ∧ i = .int .i64 q ∧ V = wz) (fun i _ => t.length - (intOf i).toNat)
                case atStart => exact ⟨0, by omega, rfl, rfl⟩
                case round =>
                  obtain ⟨q, hq, rfl, rfl⟩ := hrel
                  by_cases hqt : q < t.length
                  · obtain ⟨c, hc⟩ : ∃ c, t[q]? = some c := ⟨_, List.getElem?_eq_getElem hqt⟩
                    obtain ⟨a1, a2, a3, a4⟩ := Hall.out c (List.mem_of_getElem? hc)
                    have hbq := byte_at t q c hc hqt
                    have c1' : ((c.toNat : Int) == 32) = false := by
                      simp
                      intro h
                      exact a1 (UInt8.toNat_inj.1 (by show c.toNat = 32; omega))
                    have c2'' : ((c.toNat : Int) == 9) = false := by
                      simp
                      intro h
                      exact a2 (UInt8.toNat_inj.1 (by show c.toNat = 9; omega))
                    have c3' : ((c.toNat : Int) == 10) = false := by
                      simp
                      intro h
                      exact a3 (UInt8.toNat_inj.1 (by show c.toNat = 10; omega))
                    have c4' : ((c.toNat : Int) == 35) = false := by
                      simp
                      intro h
                      exact a4 (UInt8.toNat_inj.1 (by show c.toNat = 35; omega))
                    clear hc a1 a2 a3 a4
                    go_wp2_with fail
                    go_roundw
                    case rel => exact ⟨q + 1, by omega, by go_num, by trivial⟩
                    case measure => simp [intOf]; omega
                  · go_wp2_with fail
                    go_roundw
                    case rel => exact ⟨j + 1, by omega, by go_num, (by rw [hpn.out]; try simp), hbV.out⟩
                    case measure => simp [intOf]; omega
            · go_wp2_with fail
              go_roundw
              case rel =>
                refine ⟨k + 1, by omega, by go_num, ?_, btB2 hbx'.out hby⟩
                rw [Hwas'.out]
              case measure => simp [intOf]; omega
        · go_wp2_with fail
          go_ret
          exact ⟨rfl, btB2 hb23.out hbx⟩
end Go.Proofs.YtccnogdfnikioaaDoor
