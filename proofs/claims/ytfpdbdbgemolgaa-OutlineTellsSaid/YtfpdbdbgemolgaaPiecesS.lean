/- outline.pieces, at spots: as at points. -/
import Derived.Test.YtfpdbdbgemolgaaPieces
namespace Go.Proofs.Ytfpdbdbgemolgaa
open Go.RowKit Go.Shelf
attribute [local go_sem] Oper.semAt_some

set_option maxRecDepth 100000 in
set_option maxHeartbeats 2000000 in
theorem piecesS_in (n : Nat) (hn : 1 ≤ n) (l be br b o len cap m d B : Nat) (A E : Option Addr) (es : List Int) (T : Nat → Prop) (hT : ∀ b, b < B → T b) (hTe : T be) (hTr : T br) (hAb : 0 < len → A = some ⟨b, o, none⟩) (hcap : len ≤ cap) (hlen : cap ≤ 9223372036854775807) (hm : m ≤ 9223372036854775807)
    (J Jx : List (Pc len) → World → Prop)
    (hY : ∀ pre x W, J pre W → pre.length < m → YieldAt Fence.wide (n - 1) Try.prog l #[.int .i64 (x.1.1 : Int), .slice (some ⟨b, o + x.1.2.1 * 3, none⟩) (x.1.2.2 + 1 - x.1.2.1) (x.1.2.2 + 1 - x.1.2.1)] W fun e W' =>
      (e = .returned (.bool true) ∧ J (pre ++ [x]) W' ∧ KeepT T W W') ∨ (e = .returned (.bool false) ∧ Jx (pre ++ [x]) W'))
    (W : World) (hE : Rd W B E m 1 (cIs es)) (hbe : W.cell? ⟨be, 0, none⟩ = some (.slice E m d)) (hbr : W.cell? ⟨br, 0, none⟩ = some (.slice A len cap)) (h0 : J [] W) :
    CallsIn Fence.wide n Try.prog 48 #[.func (.yield l) #[] #[], .pointer (some ⟨be, 0, none⟩), .pointer (some ⟨br, 0, none⟩)] W fun e W' => (∃ v, e = .returned v) ∧
      ((∃ ys, ys.map (·.1) = pcsF len 0 0 es ∧ J ys W') ∨ (∃ pre, pre.map (·.1) <+: pcsF len 0 0 es ∧ Jx pre W')) := by
  refine callsIn_of_wp Try.func48 rfl trivial ?_ rfl
  simp only [Try.ntmps48, List.size_toArray, List.length_cons, List.length_nil, Nat.reduceAdd, Nat.reduceSub, Array.replicate_succ, Array.replicate_zero, List.push_toArray, List.append_toArray, List.nil_append, List.cons_append]
  gi_wp2
  gi_loopw [4, 9] (fun f i wr => ∃ (k q : Nat) (pre : List (Pc len)), k ≤ m ∧ q ≤ len ∧ i = .int .i64 k ∧ f = .int .i64 q ∧ J pre wr ∧ KeepT T W wr ∧ Hid (pre.map (·.1) ++ pcsF len k q (es.drop k) = pcsF len 0 0 es))
    (fun _ i _ => m - (intOf i).toNat)
  case atStart => exact ⟨0, 0, [], by omega, by omega, rfl, rfl, h0, KeepT.refl _ _, rfl⟩
  case round =>
    obtain ⟨k, q, pre, hk, hq, rfl, rfl, hJs, hnx, hpre⟩ := hrel
    have hbe2 := hnx.cell hTe hbe
    have hbr2 := hnx.cell hTr hbr
    by_cases hlt : k < m
    · obtain ⟨be0, bo, e, rfl, -, he, hce⟩ := (hnx.rd hT hE).atI hlt
      have hdrop : Hid (es.drop k = e :: es.drop (k + 1)) := by
        obtain ⟨h1, h2⟩ := List.getElem?_eq_some_iff.1 he.out
        have := List.drop_eq_getElem_cons h1
        rw [h2] at this
        exact this
      by_cases hlow : e < (q : Int)
      · have hd : decide (e < (q : Int)) = true := by simp [hlow]
        gi_wp2
        refine bodyPost_ret (results_none rfl _ _ _) rfl ?_
        refine ⟨⟨_, rfl⟩, .inl ⟨pre, ?_, hJs⟩⟩
        have := hpre.out
        rw [hdrop.out, pcsF, if_neg (by omega)] at this
        simpa using this
      · have hd : decide (e < (q : Int)) = false := by simp; omega
        by_cases hhi : (len : Int) ≤ e
        · gi_wp2
          refine bodyPost_ret (results_none rfl _ _ _) rfl ?_
          refine ⟨⟨_, rfl⟩, .inl ⟨pre, ?_, hJs⟩⟩
          have := hpre.out
          rw [hdrop.out, pcsF, if_neg (by omega)] at this
          simpa using this
        · obtain ⟨en, rfl⟩ : ∃ en : Nat, e = en := ⟨e.toNat, by omega⟩
          have hqe : q ≤ en := by omega
          have hel : en < len := by omega
          obtain rfl := hAb (by omega)
          have hnext : Hid ((pre ++ [(⟨(k, q, en), hqe, hel⟩ : Pc len)]).map (·.1) ++ pcsF len (k + 1) (en + 1) (es.drop (k + 1)) = pcsF len 0 0 es) := by
            have := hpre.out
            rw [hdrop.out, pcsF, if_pos (by omega)] at this
            show _ = _
            simpa using this
          obtain ⟨fn, tmps, assign, body, hy, hR⟩ := hY pre ⟨(k, q, en), hqe, hel⟩ wr hJs (by
            have h1 := congrArg List.length hnext.out
            have h2 := pcsF_length len es 0 0
            have h3 := hE.lenI
            simp only [List.length_append, List.length_map, List.length_cons, List.length_nil] at h1
            omega)
          dsimp only at hy
          clear hlow hhi
          gi_wp2
          refine hR.mono ?_
          rintro e W3 (⟨rfl, hJ3, hk3⟩ | ⟨rfl, hJx3⟩)
          · have hcell3 := hk3.cell hTe hbe2
            gi_wp2
            go_roundw
            case rel => exact ⟨k + 1, en + 1, _, by omega, by omega, by go_num, by go_num, hJ3, hnx.trans hk3, hnext⟩
            case measure => simp [intOf]; omega
          · gi_wp2
            refine bodyPost_ret (results_none rfl _ _ _) rfl ?_
            exact ⟨⟨_, rfl⟩, .inr ⟨_, ⟨_, hnext.out⟩, hJx3⟩⟩
    · gi_wp2
      go_end0
      refine ⟨⟨_, rfl⟩, .inl ⟨pre, ?_, hJs⟩⟩
      have := hpre.out
      rw [List.drop_eq_nil_of_le (by have := hE.lenI; omega)] at this
      simpa [pcsF] using this

theorem piecesS_stops (n : Nat) (hn : 1 ≤ n) (be br b o len cap m d B : Nat) (A E : Option Addr) (es : List Int) (T : Nat → Prop) (hT : ∀ b, b < B → T b) (hTe : T be) (hTr : T br) (hAb : 0 < len → A = some ⟨b, o, none⟩) (hcap : len ≤ cap) (hlen : cap ≤ 9223372036854775807) (hm : m ≤ 9223372036854775807)
    (w : World) (hB : B ≤ w.heap.size) (hE : Rd w B E m 1 (cIs es)) (hbe : w.cell? ⟨be, 0, none⟩ = some (.slice E m d)) (hbr : w.cell? ⟨br, 0, none⟩ = some (.slice A len cap)) :
    SeqStopsK Fence.wide n Try.prog 48 #[.pointer (some ⟨be, 0, none⟩), .pointer (some ⟨br, 0, none⟩)] (encs3 b o len) (KeepT T) (fun xs => xs.map (·.1) = pcsF len 0 0 es) (fun pre => pre.map (·.1) <+: pcsF len 0 0 es) m w := fun l J Jx W hW _ _ hY h0 => by
  have h1 := World.block_lt_of_cell? w _ hbe
  have h2 := World.block_lt_of_cell? w _ hbr
  exact piecesS_in n hn l be br b o len cap m d B A E es T hT hTe hTr hAb hcap hlen hm J Jx hY W (hE.below hW hB) ((hW.cell (p := ⟨be, 0, none⟩) h1).trans hbe) ((hW.cell (p := ⟨br, 0, none⟩) h2).trans hbr) h0

theorem piecesS_call (A E : Option Addr) (n c m d : Nat) (w : World) : Calls Try.prog 41 #[.slice A n c, .slice E m d] w fun x w' => x = .returned (.func (.func 48) #[] #[.pointer (some ⟨w.heap.size + 1, 0, none⟩), .pointer (some ⟨w.heap.size, 0, none⟩)]) ∧
    w' = (w.alloc (.cells #[.slice A n c] 65)).alloc (.cells #[.slice E m d] 23) := by
  go_enter Try.func41, Try.ntmps41
  go_wp2
  go_ret
  exact ⟨by simp, rfl⟩
end Go.Proofs.Ytfpdbdbgemolgaa
