/- Plain Lean: the statements of a right font's things, read. -/
import Derived.Test.YtkijckccfookeaaGreatDoorK11
namespace Go.Proofs.YtkijckccfookeaaGreatDoor
open Go.RowKit

structure GlOk (gl : Gl) (gs : List Glyph) : Prop where
  at' : ∀ (i : Nat) (g : Glyph), gs[i]? = some g → gl.lookup g.name = some i
  names : ∀ g ∈ gs, nameB g.name = true
theorem gn_ok {gl : Gl} {gs : List Glyph} (h : GlOk gl gs) {n : Int} (hn : In gs.length n) : gl.lookup (gnB gs n) = some n.toNat ∧ nameB (gnB gs n) = true := by
  obtain ⟨h1, h2⟩ := hn
  have hlt : n.toNat < gs.length := by omega
  have e : gs[n.toNat]? = some gs[n.toNat] := List.getElem?_eq_getElem hlt
  have e2 : gnB gs n = gs[n.toNat].name := by
    unfold gnB
    rw [if_neg (by omega), e]
  rw [e2]
  exact ⟨h.at' _ _ e, h.names _ (List.getElem_mem hlt)⟩
theorem eGl_ok {gl : Gl} {gs : List Glyph} (h : GlOk gl gs) {n : Int} (hn : In gs.length n) (e : Int) : eGl gl e (gnB gs n) = e ∧ vGl gl (gnB gs n) = n := by
  obtain ⟨h1, -⟩ := gn_ok h hn
  obtain ⟨h3, h4⟩ := hn
  rw [eGl, vGl, h1]
  refine ⟨by simp, ?_⟩
  simp
  omega
theorem eGls_ok {gl : Gl} {gs : List Glyph} (h : GlOk gl gs) (l : List Int) (hl : ∀ n ∈ l, In gs.length n) (e : Int) : eGls gl e (l.map (gnB gs)) = e ∧ (l.map (gnB gs)).map (vGl gl) = l := by
  induction l generalizing e with
  | nil => exact ⟨rfl, rfl⟩
  | cons n r ih =>
    obtain ⟨a1, a2⟩ := eGl_ok h (hl n (by simp)) e
    obtain ⟨b1, b2⟩ := ih (fun m hm => hl m (by simp [hm])) e
    refine ⟨?_, ?_⟩
    · have : eGls gl e ((n :: r).map (gnB gs)) = eGls gl (eGl gl e (gnB gs n)) (r.map (gnB gs)) := rfl
      rw [this, a1, b1]
    · rw [List.map_cons, List.map_cons, a2, b2]
/-- sets -/
theorem setOne_name {gl : Gl} {cls : List (B × List Int)} {s : B} {n : Nat} (hs : nameB s = true) (hl : gl.lookup s = some n) : setOne gl cls s = .ok [(n : Int)] := by
  unfold setOne
  split
  · exact absurd rfl ((name_c hs 64 (by simp)).2.2.2.2.1)
  · rw [hl]
theorem setGo_names {gl : Gl} {gs : List Glyph} (h : GlOk gl gs) (cls : List (B × List Int)) (s : List Int) (hs : ∀ n ∈ s, In gs.length n) (acc : List Int) (hl : acc.length + s.length ≤ 1000) : setGo gl cls acc (s.map (gnB gs)) = .ok (acc ++ s) := by
  induction s generalizing acc with
  | nil => simp [setGo]
  | cons n r ih =>
    obtain ⟨h1, h2⟩ := gn_ok h (hs n (by simp))
    have h3 := (hs n (by simp)).1
    rw [List.map_cons, setGo, setOne_name h2 h1]
    have e : ((n.toNat : Nat) : Int) = n := by omega
    simp only [e]
    rw [if_neg (by simp only [List.length_append, List.length_cons, List.length_nil] at hl ⊢; omega), ih (fun m hm => hs m (by simp [hm])) _ (by simp only [List.length_append, List.length_cons, List.length_nil] at hl ⊢; omega)]
    simp
theorem rowsGo_names {gl : Gl} {gs : List Glyph} (h : GlOk gl gs) (cls : List (B × List Int)) (l : List (List Int)) (hl : ∀ s ∈ l, (∀ n ∈ s, In gs.length n) ∧ s.length ≤ 1000) : rowsGo gl cls (l.map (fun s => s.map (gnB gs))) = .ok l := by
  induction l with
  | nil => rfl
  | cons s r ih =>
    obtain ⟨h1, h2⟩ := hl s (by simp)
    rw [List.map_cons, rowsGo, setGo_names h cls s h1 [] (by simpa using h2), ih (fun x hx => hl x (by simp [hx]))]
    simp
theorem setsT_in (names : List B) (hn : ∀ w ∈ names, w ≠ [91] ∧ w ≠ [93]) (row : List B) (told : List (List B)) (rest : List B) : setsGoT true row told (names ++ [93] :: rest) = setsGoT false [] (told ++ [row ++ names]) rest := by
  induction names generalizing row with
  | nil => simp [setsGoT]
  | cons w r ih =>
    obtain ⟨h1, h2⟩ := hn w (by simp)
    rw [List.cons_append, setsGoT, if_neg h1, if_neg h2, if_pos rfl, ih (fun x hx => hn x (by simp [hx]))]
    simp
theorem name_br {s : B} (h : nameB s = true) : s ≠ [91] ∧ s ≠ [93] ∧ s ≠ [47] ∧ s ≠ [62] := by
  refine ⟨?_, ?_, ?_, ?_⟩ <;> (rintro rfl; revert h; decide)
theorem setsT_one {gl : Gl} {gs : List Glyph} (h : GlOk gl gs) (s : List Int) (hs : ∀ n ∈ s, In gs.length n) (told : List (List B)) (rest : List B) : setsGoT false [] told (setW gs s ++ rest) = setsGoT false [] (told ++ [s.map (gnB gs)]) rest := by
  have hb : ∀ n ∈ s, gnB gs n ≠ [91] ∧ gnB gs n ≠ [93] := fun n hn => by
    have := name_br (gn_ok h (hs n hn)).2
    exact ⟨this.1, this.2.1⟩
  by_cases h1 : s.length = 1
  · match s, h1 with
    | [n], _ =>
      obtain ⟨b1, b2⟩ := hb n (by simp)
      show setsGoT false [] told (gnB gs n :: rest) = _
      rw [setsGoT, if_neg b1, if_neg b2]
      simp
  · have e : setW gs s = [91] :: s.map (gnB gs) ++ [[93]] := by
      unfold setW
      split
      · simp at h1
      · rfl
    rw [e]
    simp only [List.cons_append, List.append_assoc, List.nil_append]
    rw [setsGoT, if_pos rfl]
    simp only [Bool.false_eq_true, if_false]
    rw [setsT_in _ (fun w hw => by
      rw [List.mem_map] at hw
      obtain ⟨n, hn, rfl⟩ := hw
      exact hb n hn)]
    simp
theorem setsT_ok {gl : Gl} {gs : List Glyph} (h : GlOk gl gs) (l : List (List Int)) (hl : ∀ s ∈ l, ∀ n ∈ s, In gs.length n) : setsT (setsW gs l) = some (l.map (fun s => s.map (gnB gs))) := by
  suffices key : ∀ told, setsGoT false [] told (setsW gs l) = some (told ++ l.map (fun s => s.map (gnB gs))) by simpa [setsT] using key []
  induction l with
  | nil => intro told; simp [setsW, setsGoT]
  | cons s r ih =>
    intro told
    have e : setsW gs (s :: r) = setW gs s ++ setsW gs r := by simp [setsW]
    rw [e, setsT_one h s (hl s (by simp)), ih (fun x hx => hl x (by simp [hx]))]
    simp
theorem setW_words {gl : Gl} {gs : List Glyph} (h : GlOk gl gs) (l : List (List Int)) (hl : ∀ s ∈ l, ∀ n ∈ s, In gs.length n) : ∀ w ∈ setsW gs l, w ≠ [47] ∧ w ≠ [62] ∧ tokB w = true := by
  intro w hw
  simp only [setsW, List.mem_flatMap] at hw
  obtain ⟨s, hs, hw⟩ := hw
  have hn : ∀ n ∈ s, gnB gs n ≠ [47] ∧ gnB gs n ≠ [62] ∧ tokB (gnB gs n) = true := fun n hn => by
    have h1 := (gn_ok h (hl s hs n hn)).2
    have := name_br h1
    exact ⟨this.2.2.1, this.2.2.2, name_tok h1⟩
  have key : w ∈ [91] :: s.map (gnB gs) ++ [[93]] ∨ w ∈ s.map (gnB gs) := by
    unfold setW at hw
    split at hw
    · exact .inr (by simpa using hw)
    · exact .inl hw
  have : w = [91] ∨ w = [93] ∨ ∃ n ∈ s, gnB gs n = w := by
    rcases key with hk | hk
    · simp only [List.cons_append, List.mem_cons, List.mem_append, List.mem_map, List.not_mem_nil, or_false] at hk
      rcases hk with hk | ⟨n, hn, e⟩ | hk
      · exact .inl hk
      · exact .inr (.inr ⟨n, hn, e⟩)
      · exact .inr (.inl hk)
    · rw [List.mem_map] at hk
      exact .inr (.inr hk)
  rcases this with rfl | rfl | ⟨n, hns, rfl⟩
  · decide
  · decide
  · exact hn n hns
/-- a rule's four parts -/
theorem parts_run (ws : List B) (hw : ∀ w ∈ ws, w ≠ [47] ∧ w ≠ [62]) (n : Nat) (cur : List B) (told : List (List B)) (rest : List B) : partsGo n cur told (ws ++ rest) = partsGo n (cur ++ ws) told rest := by
  induction ws generalizing cur with
  | nil => simp
  | cons w r ih =>
    rw [List.cons_append, partsGo, if_pos (hw w (by simp)), ih (fun x hx => hw x (by simp [hx]))]
    simp
theorem parts_ok (a b c d : List B) (ha : ∀ w ∈ a, w ≠ [47] ∧ w ≠ [62]) (hb : ∀ w ∈ b, w ≠ [47] ∧ w ≠ [62]) (hc : ∀ w ∈ c, w ≠ [47] ∧ w ≠ [62]) (hd : ∀ w ∈ d, w ≠ [47] ∧ w ≠ [62]) :
    partsT (a ++ [47] :: b ++ [47] :: c ++ [62] :: d) = some [a, b, c, d] := by
  have e : a ++ [47] :: b ++ [47] :: c ++ [62] :: d = a ++ ([47] :: (b ++ ([47] :: (c ++ ([62] :: (d ++ [])))))) := by simp
  rw [e, partsT, parts_run a ha, partsGo, if_neg (by simp), if_pos (by simp), parts_run b hb, partsGo, if_neg (by simp), if_pos (by simp), parts_run c hc, partsGo, if_neg (by simp), if_pos (by simp), parts_run d hd, partsGo]
  simp
/-- sets that are sets already -/
theorem insS_front (n : Int) (s : List Int) (h : ∀ x ∈ s, n < x) : insS n s = n :: s := by
  cases s with
  | nil => rfl
  | cons x r => rw [insS, if_pos (h x (by simp))]
theorem setOf_id (s : List Int) (h : s.Pairwise (· < ·)) : setOf s = s := by
  induction s with
  | nil => rfl
  | cons n r ih =>
    obtain ⟨h1, h2⟩ := List.pairwise_cons.1 h
    have e : setOf (n :: r) = insS n (setOf r) := rfl
    rw [e, ih h2, insS_front n r h1]
theorem oks_len {n : Nat} {s : List Int} (h : OkS n s) : s.length ≤ n := by
  obtain ⟨h1, h2⟩ := h
  suffices key : ∀ (s : List Int) (lo : Int), s.Pairwise (· < ·) → (∀ x ∈ s, lo ≤ x ∧ x < n) → (s.length : Int) ≤ max 0 (n - lo) by
    have := key s 0 h1 (fun x hx => h2 x hx)
    omega
  intro s
  induction s with
  | nil => intro lo _ _; simp; omega
  | cons x r ih =>
    intro lo hp hr
    obtain ⟨h3, h4⟩ := List.pairwise_cons.1 hp
    have h5 := hr x (by simp)
    have := ih (x + 1) h4 (fun y hy => ⟨by have := h3 y hy; omega, (hr y (by simp [hy])).2⟩)
    simp only [List.length_cons]
    omega
theorem nodup_of_lt {s : List Int} (h : s.Pairwise (· < ·)) : s.Nodup := h.imp (fun hab e => by omega)
theorem map_idx (s out : List Int) (hn : s.Nodup) (hl : out.length = s.length) : s.map (fun g => out.getD (s.idxOf g) 0) = out := by
  apply List.ext_getElem (by simp [hl])
  intro i h1 h2
  rw [List.getElem_map]
  have h3 : i < s.length := by simpa using h1
  rw [List.Nodup.idxOf_getElem hn i h3]
  simp [List.getD, h2]
theorem rtSortOut_ok (s out : List Int) (hs : s.Pairwise (· < ·)) (hl : out.length = s.length) : sortOut s out = .ok out := by
  rw [sortOut, if_neg (by simpa using nodup_of_lt hs), if_neg (by simpa using hl), setOf_id s hs, map_idx s out (nodup_of_lt hs) hl]
/-- calls -/
theorem rtCall_ok (c : Call) (h : N9 c.at' ∧ N9 c.lookup) (e : Int) : eCall e (itB c.at' ++ 58 :: itB c.lookup) = e ∧ vCall (itB c.at' ++ 58 :: itB c.lookup) = c ∧ (itB c.at' ++ 58 :: itB c.lookup).count 58 = 1 ∧ tokB (itB c.at' ++ 58 :: itB c.lookup) = true := by
  obtain ⟨h1, h2⟩ := h
  have n1 : ∀ d ∈ itB c.at', d ≠ 58 := fun d hd => (numC_tok (it_c _ d hd)).2.1
  have n2 : ∀ d ∈ itB c.lookup, d ≠ 58 := fun d hd => (numC_tok (it_c _ d hd)).2.1
  obtain ⟨c1, c2⟩ := cut_at (b := itB c.lookup) n1
  refine ⟨?_, ?_, ?_, ?_⟩
  · rw [eCall, c1, c2, eNum_ok _ h1, eNum_ok _ h2]
  · rw [vCall, c1, c2, (it_num _ h1).2, (it_num _ h2).2]
  · rw [List.count_append, List.count_cons, count_none n1, count_none n2]
    simp
  · simp only [tokB, Bool.and_eq_true, Bool.not_eq_true', List.isEmpty_eq_false_iff, List.all_eq_true, List.mem_append, List.mem_cons]
    refine ⟨by simp, fun d hd => ?_⟩
    rcases hd with hd | rfl | hd
    · exact (numC_tok (it_c _ d hd)).1
    · decide
    · exact (numC_tok (it_c _ d hd)).1
theorem rtCalls_ok (l : List Call) (h : ∀ c ∈ l, N9 c.at' ∧ N9 c.lookup) (e : Int) : (l.map (fun c => itB c.at' ++ 58 :: itB c.lookup)).foldl eCall e = e ∧ (l.map (fun c => itB c.at' ++ 58 :: itB c.lookup)).map vCall = l ∧
    callsOk (l.map (fun c => itB c.at' ++ 58 :: itB c.lookup)) = true ∧ ∀ w ∈ l.map (fun c => itB c.at' ++ 58 :: itB c.lookup), tokB w = true := by
  induction l generalizing e with
  | nil => exact ⟨rfl, rfl, rfl, by simp⟩
  | cons c r ih =>
    obtain ⟨a1, a2, a3, a4⟩ := rtCall_ok c (h c (by simp)) e
    obtain ⟨b1, b2, b3, b4⟩ := ih (fun d hd => h d (by simp [hd])) e
    refine ⟨?_, ?_, ?_, ?_⟩
    · rw [List.map_cons, List.foldl_cons, a1, b1]
    · rw [List.map_cons, List.map_cons, a2, b2]
    · unfold callsOk at b3 ⊢
      rw [List.map_cons, List.all_cons, b3, a3]
      rfl
    · intro w hw
      rw [List.map_cons, List.mem_cons] at hw
      rcases hw with rfl | hw
      · exact a4
      · exact b4 w hw
end Go.Proofs.YtkijckccfookeaaGreatDoor
