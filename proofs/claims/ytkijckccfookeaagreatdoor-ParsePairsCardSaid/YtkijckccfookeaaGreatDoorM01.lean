/- Memory words: rows of data read through a relation, in a set of blocks. Plain facts, no program. -/
import Derived.Test.YtkijckccfookeaaGreatDoorM00
import Derived.Laws.RangeAny
import Derived.Lib.ItoaNum
namespace Go.Proofs.YtkijckccfookeaaGreatDoor
open Go.RowKit

abbrev Bs := Nat → Prop
abbrev Rel (α : Type) := World → Bs → List Value → α → Prop
/-- the blocks of S are as they were -/
def Same (S : Bs) (w w' : World) : Prop := ∀ b, S b → w'.heap[b]? = w.heap[b]?
theorem Same.refl (S : Bs) (w : World) : Same S w w := fun _ _ => rfl
theorem Same.trans {S : Bs} {a b c : World} (h : Same S a b) (k : Same S b c) : Same S a c := fun x hx => (k x hx).trans (h x hx)
theorem Same.sub {S S' : Bs} {a b : World} (h : Same S' a b) (hs : ∀ x, S x → S' x) : Same S a b := fun x hx => h x (hs x hx)
theorem Same.cell {S : Bs} {w w' : World} (h : Same S w w') {b o : Nat} {v : Value} (hb : S b) (hc : w.cell? ⟨b, o, none⟩ = some v) : w'.cell? ⟨b, o, none⟩ = some v :=
  (World.cell?_of_block (a := ⟨b, o, none⟩) (h b hb)).trans hc
structure Rel.Ok {α : Type} (R : Rel α) : Prop where
  keep : ∀ {w w' : World} {S : Bs} {cs : List Value} {x : α}, R w S cs x → Same S w w' → R w' S cs x
  mono : ∀ {w : World} {S S' : Bs} {cs : List Value} {x : α}, R w S cs x → (∀ b, S b → S' b) → R w S' cs x
/-- cells that are elements, one behind the other -/
def Fl {α : Type} (R : Rel α) (size : Nat) (w : World) (S : Bs) (cells : List Value) (xs : List α) : Prop :=
  cells.length = xs.length * size ∧ ∀ k x, xs[k]? = some x → ∃ cs, R w S cs x ∧ cs.length = size ∧ ∀ j u, cs[j]? = some u → cells[k * size + j]? = some u
/-- a slice's elements -/
def Sl {α : Type} (R : Rel α) (size : Nat) (w : World) (S : Bs) (A : Option Addr) (xs : List α) : Prop :=
  ∃ cells, Fl R size w S cells xs ∧ (0 < xs.length → ∃ b o, A = some ⟨b, o, none⟩ ∧ S b ∧ ∀ j u, cells[j]? = some u → w.cell? ⟨b, o + j, none⟩ = some u)
/-- one cell that is a slice -/
def SlV {α : Type} (R : Rel α) (size : Nat) : Rel (List α) := fun w S cs xs => ∃ A c, cs = [.slice A xs.length c] ∧ Sl R size w S A xs
section
variable {α : Type} {R : Rel α} {size : Nat} {w w' : World} {S S' : Bs} {cells : List Value} {xs : List α} {A : Option Addr}
theorem Fl.keep (ok : R.Ok) (h : Fl R size w S cells xs) (hs : Same S w w') : Fl R size w' S cells xs :=
  ⟨h.1, fun k x hx => by obtain ⟨cs, h1, h2, h3⟩ := h.2 k x hx; exact ⟨cs, ok.keep h1 hs, h2, h3⟩⟩
theorem Fl.mono (ok : R.Ok) (h : Fl R size w S cells xs) (hs : ∀ b, S b → S' b) : Fl R size w S' cells xs :=
  ⟨h.1, fun k x hx => by obtain ⟨cs, h1, h2, h3⟩ := h.2 k x hx; exact ⟨cs, ok.mono h1 hs, h2, h3⟩⟩
theorem Sl.keep (ok : R.Ok) (h : Sl R size w S A xs) (hs : Same S w w') : Sl R size w' S A xs := by
  obtain ⟨cells, h1, h2⟩ := h
  refine ⟨cells, h1.keep ok hs, fun h0 => ?_⟩
  obtain ⟨b, o, e, hb, hc⟩ := h2 h0
  exact ⟨b, o, e, hb, fun j u hu => hs.cell hb (hc j u hu)⟩
theorem Sl.mono (ok : R.Ok) (h : Sl R size w S A xs) (hs : ∀ b, S b → S' b) : Sl R size w S' A xs := by
  obtain ⟨cells, h1, h2⟩ := h
  refine ⟨cells, h1.mono ok hs, fun h0 => ?_⟩
  obtain ⟨b, o, e, hb, hc⟩ := h2 h0
  exact ⟨b, o, e, hs b hb, hc⟩
theorem SlV.ok (ok : R.Ok) : (SlV R size).Ok :=
  ⟨fun ⟨A, c, e, h⟩ hs => ⟨A, c, e, h.keep ok hs⟩, fun ⟨A, c, e, h⟩ hs => ⟨A, c, e, h.mono ok hs⟩⟩
theorem Sl.get (h : Sl R size w S A xs) {k : Nat} (hk : k < xs.length) :
    ∃ b o x cs, A = some ⟨b, o, none⟩ ∧ S b ∧ Hid (xs[k]? = some x) ∧ R w S cs x ∧ cs.length = size ∧ ∀ j u, cs[j]? = some u → w.cell? ⟨b, o + k * size + j, none⟩ = some u := by
  obtain ⟨cells, h1, h2⟩ := h
  obtain ⟨b, o, e, hb, hc⟩ := h2 (by omega)
  have hx : xs[k]? = some xs[k] := List.getElem?_eq_getElem hk
  obtain ⟨cs, r1, r2, r3⟩ := h1.2 k _ hx
  exact ⟨b, o, _, cs, e, hb, hx, r1, r2, fun j u hu => by rw [Nat.add_assoc]; exact hc _ _ (r3 j u hu)⟩
theorem Fl.nil : Fl R size w S [] [] := ⟨by simp, fun k x h => by simp at h⟩
theorem Sl.nil : Sl R size w S A [] := ⟨[], Fl.nil, fun h => absurd h (by simp)⟩
theorem Fl.append {cells2 : List Value} {ys : List α} (h : Fl R size w S cells xs) (k : Fl R size w S cells2 ys) : Fl R size w S (cells ++ cells2) (xs ++ ys) := by
  refine ⟨by simp [h.1, k.1, Nat.add_mul], fun i x hx => ?_⟩
  by_cases hi : i < xs.length
  · rw [List.getElem?_append_left hi] at hx
    obtain ⟨cs, r1, r2, r3⟩ := h.2 i x hx
    refine ⟨cs, r1, r2, fun j u hu => ?_⟩
    have hj := r3 j u hu
    rw [List.getElem?_append_left (List.getElem?_eq_some_iff.1 hj).1]
    exact hj
  · rw [List.getElem?_append_right (by omega)] at hx
    obtain ⟨cs, r1, r2, r3⟩ := k.2 _ x hx
    refine ⟨cs, r1, r2, fun j u hu => ?_⟩
    have hj := r3 j u hu
    have he : xs.length * size + (i - xs.length) * size = i * size := by rw [← Nat.add_mul]; congr 1; omega
    rw [List.getElem?_append_right (by rw [h.1]; omega), h.1, show i * size + j - xs.length * size = (i - xs.length) * size + j by omega]
    exact hj
theorem Fl.one {cs : List Value} {x : α} (h : R w S cs x) (hl : cs.length = size) : Fl R size w S cs [x] := by
  refine ⟨by simp [hl], fun k y hy => ?_⟩
  cases k with
  | zero => simp at hy; subst hy; exact ⟨cs, h, hl, fun j u hu => by simpa using hu⟩
  | succ k => simp at hy
theorem Fl.snoc {cs : List Value} {x : α} (h : Fl R size w S cells xs) (k : R w S cs x) (hl : cs.length = size) : Fl R size w S (cells ++ cs) (xs ++ [x]) := h.append (Fl.one k hl)
/-- a row of the call's own, read -/
theorem Sl.of_own {base n c : Nat} {e : TypeId} (h : w.ownsRow base e size (.slice A n c) n cells) (hf : Fl R size w S cells xs) (hS : ∀ b cur, Bk w b e cur → S b) (hsz : 0 < size) : Sl R size w S A xs := by
  refine ⟨cells, hf, fun h0 => ?_⟩
  rcases h.2 with ⟨h1, h2⟩ | ⟨g, cap, cur, h1, hb, hh, hn, -⟩
  · have h3 := h.1
    have h4 := hf.1
    subst h2
    simp only [Nat.zero_mul, List.length_eq_zero_iff] at h3
    subst h3
    have := Nat.mul_pos h0 hsz
    rw [← h4] at this
    simp at this
  · simp only [Value.slice.injEq, true_and] at h1
    obtain ⟨rfl, rfl⟩ := h1
    refine ⟨g, 0, rfl, hS g cur hh, fun j u hu => ?_⟩
    have := h.cells (g := g) rfl j u hu
    rwa [addr_add] at this
end
end Go.Proofs.YtkijckccfookeaaGreatDoor
/- Plain Lean: the words of a line, and the lines of a source, as lists of bytes. -/
namespace Go.Proofs.YtkijckccfookeaaGreatDoor

abbrev B := List UInt8
def blank (c : UInt8) : Bool := c == 32 || c == 9
/-- where the reading of a line stands: the place, where the open word began, its bytes so far, the words that ended -/
structure St where
  at' : Nat
  fr : Nat
  cur : B
  told : List (Nat × B)
def st0 : St := ⟨0, 0, [], []⟩
def St.pend (σ : St) : List (Nat × B) := if σ.cur = [] then [] else [(σ.fr, σ.cur)]
def St.all (σ : St) : List (Nat × B) := σ.told ++ σ.pend
def step (σ : St) (c : UInt8) : St :=
  if blank c then ⟨σ.at' + 1, 0, [], σ.all⟩
  else ⟨σ.at' + 1, if σ.cur = [] then σ.at' else σ.fr, σ.cur ++ [c], σ.told⟩
def code (l : B) : B := l.takeWhile (fun c => c != 35)
def run (l : B) : St := l.foldl step st0
/-- the words of a line: where each begins, its bytes -/
def one (l : B) : List (Nat × B) := (run (code l)).all

theorem run_snoc (l : B) (c : UInt8) : run (l ++ [c]) = step (run l) c := by simp [run]
theorem run_at (l : B) : (run l).at' = l.length := by
  suffices h : ∀ (σ : St), (l.foldl step σ).at' = σ.at' + l.length by simpa [run, st0] using h st0
  induction l with
  | nil => intro σ; simp
  | cons c r ih => intro σ; rw [List.foldl_cons, ih]; unfold step; split <;> simp <;> omega
/-- the open word is what has come since it began -/
theorem run_cur (l : B) : (run l).cur ≠ [] → (run l).fr + (run l).cur.length = l.length ∧ l.drop (run l).fr = (run l).cur := by
  suffices h : ∀ k, k ≤ l.length → (run (l.take k)).cur ≠ [] → (run (l.take k)).fr + (run (l.take k)).cur.length = k ∧ (l.take k).drop (run (l.take k)).fr = (run (l.take k)).cur by
    simpa using h l.length (Nat.le_refl _)
  intro k
  induction k with
  | zero => intro _ h; simp [run, st0] at h
  | succ k ih =>
    intro hk
    have e : l.take (k + 1) = l.take k ++ [l[k]] := by rw [List.take_succ_eq_append_getElem (by omega)]
    rw [e, run_snoc]
    have ha := run_at (l.take k)
    rw [List.length_take, Nat.min_eq_left (by omega)] at ha
    unfold step
    split
    · intro h; simp at h
    · intro _
      by_cases hc : (run (l.take k)).cur = []
      · simp only [hc, ha, if_true, List.nil_append, List.length_cons, List.length_nil]
        refine ⟨by simp, ?_⟩
        rw [List.drop_append, List.drop_eq_nil_of_le (by rw [List.length_take]; omega), List.length_take, Nat.min_eq_left (by omega)]
        simp
      · have := ih (by omega) hc
        simp only [hc, if_false, List.length_append, List.length_cons, List.length_nil]
        refine ⟨by omega, ?_⟩
        rw [List.drop_append_of_le_length (by rw [List.length_take]; omega), this.2]
theorem step_wide (σ : St) (seg : B) (hc : σ.cur ≠ []) (hs : ∀ c ∈ seg, blank c = false) : seg.foldl step σ = ⟨σ.at' + seg.length, σ.fr, σ.cur ++ seg, σ.told⟩ := by
  induction seg generalizing σ with
  | nil => cases σ; simp
  | cons c r ih =>
    rw [List.foldl_cons, ih _ (by unfold step; simp [hs c (by simp)]) (fun d hd => hs d (by simp [hd]))]
    unfold step
    simp [hs c (by simp), hc]
    omega

/-- the pieces between the bytes 10 -/
def pcs : B → List B
  | [] => [[]]
  | c :: r => if c = 10 then [] :: pcs r else match pcs r with | p :: ps => (c :: p) :: ps | [] => [[c]]
theorem pcs_ne (l : B) : pcs l ≠ [] := by
  cases l with
  | nil => simp [pcs]
  | cons c r =>
    rw [pcs]
    split
    · simp
    · split <;> simp
theorem pcs_none (l : B) (h : ∀ c ∈ l, c ≠ 10) : pcs l = [l] := by
  induction l with
  | nil => rfl
  | cons c r ih => rw [pcs, if_neg (h c (by simp)), ih (fun d hd => h d (by simp [hd]))]
theorem pcs_app (a b : B) (h : ∀ c ∈ a, c ≠ 10) : pcs (a ++ 10 :: b) = a :: pcs b := by
  induction a with
  | nil => simp [pcs]
  | cons c r ih =>
    rw [List.cons_append, pcs, if_neg (h c (by simp)), ih (fun d hd => h d (by simp [hd]))]
/-- a word: its line, its place, its bytes -/
abbrev Wd := Int × Int × B
def num (n : Nat) (l : List (Nat × B)) : List Wd := l.map (fun x => ((n : Int), (x.1 : Int), x.2))
def linesFrom : Nat → List B → List (List Wd)
  | _, [] => []
  | n, p :: ps => (if one p = [] then [] else [num n (one p)]) ++ linesFrom (n + 1) ps
def linesL (l : B) : List (List Wd) := linesFrom 1 (pcs l)
theorem linesFrom_app (n : Nat) (a b : List B) : linesFrom n (a ++ b) = linesFrom n a ++ linesFrom (n + a.length) b := by
  induction a generalizing n with
  | nil => simp [linesFrom]
  | cons p ps ih =>
    simp only [List.cons_append, linesFrom, ih, List.length_cons, List.append_assoc]
    rw [show n + 1 + ps.length = n + (ps.length + 1) by omega]

/-- behind the first byte of a wide rune stand bytes from 128 on, and all lie in the text -/
theorem decode_wide (s : ByteArray) (pos : Nat) (h : pos < s.size) : pos + (Utf8.decode s pos).2 ≤ s.size ∧ ∀ k, 1 ≤ k → k < (Utf8.decode s pos).2 → 128 ≤ (s.get! (pos + k)).toNat := by
  have key : ∀ k, (decide (pos + k < s.size) && (s.get! (pos + k)).toNat / 64 == 2) = true → pos + k < s.size ∧ 128 ≤ (s.get! (pos + k)).toNat := by
    intro k hk
    simp at hk
    omega
  simp only [Utf8.decode]
  split
  · exact ⟨by simp; omega, fun k h1 h2 => by simp at h2; omega⟩
  · split
    · rename_i hc
      simp only [Bool.and_eq_true] at hc
      have h1 := key 1 (by simpa using hc.2)
      split
      · exact ⟨by simp; omega, fun k a b => by simp at b; obtain rfl : k = 1 := by omega
                                               exact h1.2⟩
      · exact ⟨by simp; omega, fun k a b => by simp at b; omega⟩
    · split
      · rename_i hc
        simp only [Bool.and_eq_true] at hc
        have h1 := key 1 (by simpa using hc.1.2)
        have h2 := key 2 (by simpa using hc.2)
        split
        · exact ⟨by simp; omega, fun k a b => by
            simp at b
            obtain rfl | rfl : k = 1 ∨ k = 2 := by omega
            · exact h1.2
            · exact h2.2⟩
        · exact ⟨by simp; omega, fun k a b => by simp at b; omega⟩
      · split
        · rename_i hc
          simp only [Bool.and_eq_true] at hc
          have h1 := key 1 (by simpa using hc.1.1.2)
          have h2 := key 2 (by simpa using hc.1.2)
          have h3 := key 3 (by simpa using hc.2)
          split
          · exact ⟨by simp; omega, fun k a b => by
              simp at b
              obtain rfl | rfl | rfl : k = 1 ∨ k = 2 ∨ k = 3 := by omega
              · exact h1.2
              · exact h2.2
              · exact h3.2⟩
          · exact ⟨by simp; omega, fun k a b => by simp at b; omega⟩
        · exact ⟨by simp; omega, fun k a b => by simp at b; omega⟩
end Go.Proofs.YtkijckccfookeaaGreatDoor
/- Plain Lean: fonts as data, and their sources (unparse) as bytes. Printed by gen_fpure.py. -/
namespace Go.Proofs.YtkijckccfookeaaGreatDoor

structure Ins where
  op : Int
  a : Int
  deriving DecidableEq
structure Pt where
  x : Int
  y : Int
  on : Bool
  deriving DecidableEq
structure Part where
  glyph : Int
  x : Int
  y : Int
  deriving DecidableEq
structure Anchor where
  kind : Int
  cls : Int
  x : Int
  y : Int
  deriving DecidableEq
structure Delta where
  region : Int
  point : Int
  x : Int
  y : Int
  deriving DecidableEq
structure Glyph where
  name : B
  advance : Int
  mark : Bool
  points : List Pt
  ends : List Int
  parts : List Part
  anchors : List Anchor
  deltas : List Delta
  hint : List Ins
  deriving DecidableEq
structure Chr where
  rune : Int
  glyph : Int
  deriving DecidableEq
structure Call where
  at' : Int
  lookup : Int
  deriving DecidableEq
structure Rule where
  back : List (List Int)
  in' : List (List Int)
  ahead : List (List Int)
  out : List Int
  calls : List Call
  x : Int
  deriving DecidableEq
structure Lookup where
  kind : Int
  ignore : Bool
  rules : List Rule
  deriving DecidableEq
structure Feature where
  name : B
  lookups : List Int
  deriving DecidableEq
structure Axis where
  name : B
  min' : Int
  def' : Int
  max' : Int
  deriving DecidableEq
structure Tent where
  start : Int
  peak : Int
  stop : Int
  deriving DecidableEq
structure Region where
  tents : List Tent
  deriving DecidableEq
structure Fnt where
  unit : Int
  glyphs : List Glyph
  chars : List Chr
  lookups : List Lookup
  features : List Feature
  axes : List Axis
  regions : List Region
  funcs : List (List Ins)
  cvt : List Int
  deriving DecidableEq

def opNames : List B := [[112, 117, 115, 104], [112, 111, 112], [100, 117, 112], [115, 119, 97, 112], [97, 100, 100], [115, 117, 98], [109, 117, 108], [100, 105, 118], [110, 101, 103], [97, 98, 115], [109, 105, 110], [109, 97, 120], [102, 108, 111, 111, 114], [99, 101, 105, 108], [114, 111, 117, 110, 100], [108, 116], [108, 101], [101, 113], [110, 111, 116], [97, 110, 100], [111, 114], [112, 114, 111, 106], [102, 114, 101, 101], [109, 111, 100, 101], [99, 118, 116], [115, 101, 116, 99, 118, 116], [108, 111, 97, 100], [115, 97, 118, 101], [103, 101, 116], [111, 114, 103], [109, 111, 118, 101], [115, 101, 116], [97, 108, 105, 103, 110], [105, 110, 116, 101, 114], [106, 117, 109, 112], [106, 117, 109, 112, 122], [99, 97, 108, 108, 102], [108, 111, 111, 112], [115, 105, 122, 101]]
def anchorNames : List B := [[98, 97, 115, 101], [109, 97, 114, 107], [101, 110, 116, 114, 121], [101, 120, 105, 116]]
def kindNames : List B := [[115, 105, 110, 103, 108, 101], [109, 117, 108, 116, 105, 112, 108, 101], [108, 105, 103, 97, 116, 117, 114, 101], [99, 104, 97, 105, 110], [114, 101, 118, 101, 114, 115, 101], [112, 97, 105, 114], [99, 117, 114, 115, 105, 118, 101], [109, 97, 114, 107, 115]]
abbrev sUnit : B := [117, 110, 105, 116]
abbrev sAxis : B := [97, 120, 105, 115]
abbrev sRegion : B := [114, 101, 103, 105, 111, 110]
abbrev sCvt : B := [99, 118, 116]
abbrev sFunc : B := [102, 117, 110, 99]
abbrev sGlyph : B := [103, 108, 121, 112, 104]
abbrev sMark : B := [109, 97, 114, 107]
abbrev sContour : B := [99, 111, 110, 116, 111, 117, 114]
abbrev sPart : B := [112, 97, 114, 116]
abbrev sAnchor : B := [97, 110, 99, 104, 111, 114]
abbrev sDelta : B := [100, 101, 108, 116, 97]
abbrev sHint : B := [104, 105, 110, 116]
abbrev sChar : B := [99, 104, 97, 114]
abbrev sLookup : B := [108, 111, 111, 107, 117, 112]
abbrev sIgnore : B := [105, 103, 110, 111, 114, 101]
abbrev sRule : B := [114, 117, 108, 101]
abbrev sFeature : B := [102, 101, 97, 116, 117, 114, 101]
abbrev sClass : B := [99, 108, 97, 115, 115]
/-- one of some names, from 1 on -/
def pick (l : List B) (n : Int) : B := if n < 1 then [63] else (l[(n - 1).toNat]?).getD [63]
def opB (n : Int) : B := pick opNames n
def itB (n : Int) : B := Lib.itoa n
def moreB (more : List B) : B := more.flatMap (fun w => 32 :: w)
def lineB (first : B) (more : List B) : B := first ++ moreB more ++ [10]
def insB (i : Ins) : B := opB i.op ++ if i.a = 0 then [] else 58 :: itB i.a
def gnB (gs : List Glyph) (n : Int) : B := if n < 0 then 63 :: itB n else match gs[n.toNat]? with | some g => g.name | none => 63 :: itB n
def setW (gs : List Glyph) (l : List Int) : List B := match l with | [n] => [gnB gs n] | _ => [91] :: l.map (gnB gs) ++ [[93]]
def setsW (gs : List Glyph) (l : List (List Int)) : List B := l.flatMap (setW gs)
def outW (gs : List Glyph) (kind : Int) (r : Rule) : List B :=
  if kind = 1 ∨ kind = 2 ∨ kind = 3 ∨ kind = 5 then r.out.map (gnB gs)
  else if kind = 4 then r.calls.map (fun c => itB c.at' ++ 58 :: itB c.lookup)
  else if kind = 6 then [itB r.x] else []
def ruleW (gs : List Glyph) (kind : Int) (r : Rule) : List B := setsW gs r.back ++ [47] :: setsW gs r.in' ++ [47] :: setsW gs r.ahead ++ [62] :: outW gs kind r
def ruleB (gs : List Glyph) (kind : Int) (r : Rule) : B := lineB sRule (ruleW gs kind r)
def lookupB (gs : List Glyph) (l : Lookup) : B := lineB sLookup (pick kindNames l.kind :: if l.ignore then [sIgnore] else []) ++ l.rules.flatMap (ruleB gs l.kind)
def ptB (p : Pt) : B := itB p.x ++ 44 :: itB p.y ++ if p.on then [] else [42]
/-- the contours of points: what stands up to each end, up to the first end that is wrong -/
def contsFrom (pts : List Pt) : Nat → List Int → List (List Pt)
  | _, [] => []
  | fr, e :: es => if e < (fr : Int) ∨ (pts.length : Int) ≤ e then [] else ((pts.take (e.toNat + 1)).drop fr) :: contsFrom pts (e.toNat + 1) es
def glyphB (gs : List Glyph) (g : Glyph) : B :=
  lineB sGlyph (g.name :: itB g.advance :: if g.mark then [sMark] else []) ++
  (contsFrom g.points 0 g.ends).flatMap (fun c => lineB sContour (c.map ptB)) ++
  g.parts.flatMap (fun p => lineB sPart [gnB gs p.glyph, itB p.x, itB p.y]) ++
  g.anchors.flatMap (fun a => lineB sAnchor [pick anchorNames a.kind, itB a.cls, itB a.x, itB a.y]) ++
  g.deltas.flatMap (fun d => lineB sDelta [itB d.region, itB d.point, itB d.x, itB d.y]) ++
  if g.hint.isEmpty then [] else lineB sHint (g.hint.map insB)
def axisB (a : Axis) : B := lineB sAxis [a.name, itB a.min', itB a.def', itB a.max']
def tentW (t : Tent) : List B := [itB t.start, itB t.peak, itB t.stop]
def regionB (r : Region) : B := lineB sRegion (r.tents.flatMap tentW)
def funcB (p : List Ins) : B := lineB sFunc (p.map insB)
def charB (gs : List Glyph) (c : Chr) : B := lineB sChar [itB c.rune, gnB gs c.glyph]
def featureB (x : Feature) : B := lineB sFeature (x.name :: x.lookups.map itB)
def fontB (f : Fnt) : B :=
  lineB sUnit [itB f.unit] ++
  f.axes.flatMap axisB ++
  f.regions.flatMap regionB ++
  (if f.cvt.isEmpty then [] else lineB sCvt (f.cvt.map itB)) ++
  f.funcs.flatMap funcB ++
  f.glyphs.flatMap (glyphB f.glyphs) ++
  f.chars.flatMap (charB f.glyphs) ++
  f.lookups.flatMap (lookupB f.glyphs) ++
  f.features.flatMap featureB
end Go.Proofs.YtkijckccfookeaaGreatDoor
