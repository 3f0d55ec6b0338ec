/- The contract of fleuronref03.Cuts. -/
import Derived.Test.YtfpdbdbgemolgaaPieces
namespace Go.Proofs.Ytfpdbdbgemolgaa
open Go.RowKit

theorem Rd.new (w : World) (cs : Array Value) (t : TypeId) (n size : Nat) (h : cs.size = n * size) : Rd (w.alloc (.cells cs t)) (w.heap.size + 1) (some ⟨w.heap.size, 0, none⟩) n size cs.toList :=
  ⟨by simpa using h, fun _ => ⟨_, _, rfl, by omega, fun j u hu => by
    have h1 : (w.alloc (.cells cs t)).heap[w.heap.size]? = some (.cells cs t) := heap_alloc_new w _
    have := World.news_of_block h1 j u hu
    rwa [addr_add] at this⟩⟩

def cutP (p : Nat × Nat × Nat) : P2 := ((p.2.1 : Int), (p.2.2 : Int))
theorem info64 : (Try.prog.info? 64).map (fun i => (i.zero, i.size, i.bytes)) = some (some (.agg #[.int .i64 0, .int .i64 0]), 2, 16) := by kernel_rfl

set_option maxHeartbeats 2000000 in
theorem cuts_ok (w : World) (B : Nat) (E : Option Addr) (n m d : Nat) (es : List Int) (hE : Rd w B E m 1 (cIs es)) (hB : B ≤ w.heap.size) (hn : n ≤ 9223372036854775807) (hm : m * 16 ≤ 140737488355328) :
    Calls Try.prog 40 #[.slice E m d, .int .i64 n] w fun e w' => ∃ v, e = .returned v ∧ w'.ownsRow w.heap.size 64 2 v (pcsF n 0 0 es).length (c2s ((pcsF n 0 0 es).map cutP)) ∧ Below w.heap.size w w' := by
  obtain ⟨i0, hi0, hz0, hz1, hz2⟩ := info_parts info64
  go_enter Try.func40, Try.ntmps40
  go_wp2
  have hP : (w.alloc (.cells #[] 64)).ownsRow w.heap.size 64 2 (.slice (some ⟨w.heap.size, 0, none⟩) 0 0) 0 [] := World.ownsRow_made w #[] 0 (Nat.le_refl _) (by simp [maxLen]) rfl
  go_loopw [5, 6, 7] (fun v l i wr => ∃ (k f : Nat) (pre : List (Nat × Nat × Nat)), k ≤ m ∧ f ≤ n ∧ pre.length ≤ k ∧ i = .int .i64 k ∧ l = .int .i64 ((f : Int) - 1) ∧ wr.ownsRow w.heap.size 64 2 v pre.length (c2s (pre.map cutP)) ∧ Below w.heap.size w wr ∧ Hid (pre ++ pcsF n k f (es.drop k) = pcsF n 0 0 es))
    (fun _ _ i _ => m - (intOf i).toNat)
  case atStart => exact ⟨0, 0, [], by omega, by omega, by simp, rfl, rfl, hP, (Below.refl _ _).alloc (Nat.le_refl _) _, rfl⟩
  case round =>
    obtain ⟨k, f, pre, hk, hf, hpk, rfl, rfl, how, hbl, hpre⟩ := hrel
    obtain ⟨A1, c1, rfl, -⟩ := Rd.of_own how
    by_cases hlt : k < m
    · obtain ⟨b, o, e, rfl, hbB, he, hce⟩ := (hE.below hbl hB).atI hlt
      have hdrop : Hid (es.drop k = e :: es.drop (k + 1)) := by
        obtain ⟨h1, h2⟩ := List.getElem?_eq_some_iff.1 he.out
        have := List.drop_eq_getElem_cons h1
        rw [h2] at this
        exact this
      by_cases hlow : e < (f : Int)
      · have hd : decide (e ≤ (f : Int) - 1) = true := by simp; omega
        go_wp2
        go_ret
        refine ⟨_, rfl, ?_, hbl⟩
        have := hpre.out
        rw [hdrop.out, pcsF, if_neg (by omega), List.append_nil] at this
        rw [← this]
        exact how
      · have hd : decide (e ≤ (f : Int) - 1) = false := by simp; omega
        by_cases hhi : (n : Int) ≤ e
        · go_wp2
          go_ret
          refine ⟨_, rfl, ?_, hbl⟩
          have := hpre.out
          rw [hdrop.out, pcsF, if_neg (by omega), List.append_nil] at this
          rw [← this]
          exact how
        · obtain ⟨en, rfl⟩ : ∃ en : Nat, e = en := ⟨e.toNat, by omega⟩
          have hqe : f ≤ en := by omega
          have hel : en < n := by omega
          have hnext : Hid ((pre ++ [(k, f, en)]) ++ pcsF n (k + 1) (en + 1) (es.drop (k + 1)) = pcsF n 0 0 es) := by
            have := hpre.out
            rw [hdrop.out, pcsF, if_pos (by omega)] at this
            show _ = _
            simpa using this
          have hbw : b < wr.heap.size := World.block_lt_of_cell? wr _ hce
          clear hlow hhi
          go_wp2_with (at_builtin; refine wpList_append_any _ rfl (.tmp 30) (.tmp 38) 62 rfl w.heap.size 64 i0 _ 2 16 Try.underlying62 hi0 hz0 hz1 hz2 rfl (by decide) (.slice A1 pre.length c1) pre.length (c2s (pre.map cutP)) rfl (how.alloc _) (wr.heap.size + 1) (some ⟨wr.heap.size, 0, none⟩) 1 1 [.int .i64 (f : Int), .int .i64 (en : Int)] rfl (Rd.new wr #[.int .i64 (f : Int), .int .i64 (en : Int)] 64 1 2 rfl) (by simp [Value.oneCell']) (by simp only [maxLen]; omega) (by omega) (by have := hbl.size; simp; omega) ?_; intro v1 w1 hown1 hg1 _; have hbl1 : Below w.heap.size w w1 := (hbl.alloc hbl.size _).grown hg1 (by have := hbl.size; simp; omega) (fun g hg => (how.lt g hg).1); have hce1 : w1.cell? ⟨b, o + k, none⟩ = some (.int .i64 (en : Int)) := (hbl1.cell (p := ⟨b, o + k, none⟩) (by simp; omega)).trans ((hbl.cell (p := ⟨b, o + k, none⟩) (by simp; omega)).symm.trans hce))
          go_roundw
          case rel => exact ⟨k + 1, en + 1, pre ++ [(k, f, en)], by omega, by omega, by simp; omega, by go_num, by simp, by simpa [c2s, cutP, c2] using hown1, hbl1, hnext⟩
          case measure => simp [intOf]; omega
    · go_wp2
      go_ret
      refine ⟨_, rfl, ?_, hbl⟩
      have := hpre.out
      rw [List.drop_eq_nil_of_le (by have := hE.lenI; omega), pcsF, List.append_nil] at this
      rw [← this]
      exact how
end Go.Proofs.Ytfpdbdbgemolgaa
