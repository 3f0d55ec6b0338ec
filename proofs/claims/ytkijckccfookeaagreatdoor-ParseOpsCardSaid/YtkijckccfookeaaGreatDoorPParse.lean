/- Plain Lean: what parse.Font makes of a source, statement by statement. -/
import Derived.Test.YtkijckccfookeaaGreatDoorL01
import Derived.Test.YtkijckccfookeaaGreatDoorL04
namespace Go.Proofs.YtkijckccfookeaaGreatDoor

/-- where the reading of a source stands: the font so far, whether a unit stood, the classes -/
structure PS where
  f : Fnt
  unit : Bool
  cls : List (B × List Int)
def f0 : Fnt := ⟨0, [], [], [], [], [], [], [], []⟩
def ps0 : PS := ⟨f0, false, []⟩
abbrev Gl := List (B × Nat)
/-- the names of the glyph statements, each with the number of its first one -/
def gnames : Nat → List (List B) → Gl
  | _, [] => []
  | n, l :: ls =>
    match l with
    | w :: r => if w = sGlyph then (match r with | v :: _ => if nameB v then [(v, n)] else [] | [] => []) ++ gnames (n + 1) ls else gnames n ls
    | [] => gnames n ls
theorem gnames_nil (n : Nat) (L : List (List B)) : gnames n ([] :: L) = gnames n L := rfl
def gname1 (n : Nat) (r : List B) : Gl := match r with | v :: _ => if nameB v then [(v, n)] else [] | [] => []
theorem gnames_cons (n : Nat) (w : B) (r : List B) (L : List (List B)) : gnames n ((w :: r) :: L) = if w = sGlyph then gname1 n r ++ gnames (n + 1) L else gnames n L := by
  rw [gnames.eq_def]
  cases r <;> rfl
/-- the first error stays -/
def eNum (e : Int) (t : B) : Int := if e = 0 ∧ numOk t = false then 21 else e
def eName (e : Int) (t : B) : Int := if e = 0 ∧ nameB t = false then 23 else e
def eGl (gl : Gl) (e : Int) (t : B) : Int := if e = 0 ∧ (gl.lookup t).isNone = true then 23 else e
def vGl (gl : Gl) (t : B) : Int := ((gl.lookup t).getD 0 : Nat)
def eNums (e : Int) (l : List B) : Int := l.foldl eNum e
def eGls (gl : Gl) (e : Int) (l : List B) : Int := l.foldl (eGl gl) e
/-- a text ahead of the first sign, and behind it -/
def cutL (c : UInt8) (t : B) : B := t.takeWhile (· != c)
def cutR (c : UInt8) (t : B) : B := (t.dropWhile (· != c)).drop 1
def opN (t : B) : Int := if t ∈ opNames then (opNames.findIdx (· == t) : Int) + 1 else 0
def kindN (l : List B) (t : B) : Int := if t ∈ l then (l.findIdx (· == t) : Int) + 1 else 0
def eOp (e : Int) (t : B) : Int :=
  if t.contains 58 then eNum (if e = 0 ∧ opN (cutL 58 t) = 0 then 23 else e) (cutR 58 t) else if e = 0 ∧ opN (cutL 58 t) = 0 then 23 else e
def vOp (t : B) : Ins := ⟨opN (cutL 58 t), if t.contains 58 then numV (cutR 58 t) else 0⟩
def opsOk (l : List B) : Bool := l.all (fun t => t.count 58 ≤ 1)
/-- points: one comma, a star at most, at the end -/
def ptOk (t : B) : Bool := t.count 44 == 1 && (!t.contains 42 || t.idxOf 42 == t.length - 1)
def unStar (t : B) : B := if t.getLast? = some 42 then t.dropLast else t
def ePt (e : Int) (t : B) : Int := eNum (eNum e (cutL 44 (unStar t))) (cutR 44 (unStar t))
def vPt (t : B) : Pt := ⟨numV (cutL 44 (unStar t)), numV (cutR 44 (unStar t)), t.getLast? != some 42⟩
def callsOk (l : List B) : Bool := l.all (fun t => t.count 58 == 1)
def eCall (e : Int) (t : B) : Int := eNum (eNum e (cutL 58 t)) (cutR 58 t)
def vCall (t : B) : Call := ⟨numV (cutL 58 t), numV (cutR 58 t)⟩
/-- sets of texts between brackets -/
def setsGoT : Bool → List B → List (List B) → List B → Option (List (List B))
  | op, _, told, [] => if op then none else some told
  | op, row, told, w :: r =>
    if w = [91] then (if op then none else setsGoT true [] told r)
    else if w = [93] then (if op then setsGoT false [] (told ++ [row]) r else none)
    else if op then setsGoT true (row ++ [w]) told r
    else setsGoT false [] (told ++ [[w]]) r
def setsT (ws : List B) : Option (List (List B)) := setsGoT false [] [] ws
/-- one word of a set -/
def setOne (gl : Gl) (cls : List (B × List Int)) (t : B) : Except Int (List Int) :=
  match t with
  | 64 :: r => match cls.lookup r with | some c => .ok c | none => .error 23
  | _ => match gl.lookup t with | some n => .ok [(n : Int)] | none => .error 23
def setGo (gl : Gl) (cls : List (B × List Int)) : List Int → List B → Except Int (List Int)
  | acc, [] => .ok acc
  | acc, t :: r => match setOne gl cls t with
    | .error e => .error e
    | .ok c => if 1000 < (acc ++ c).length then .error 2 else setGo gl cls (acc ++ c) r
def rowsGo (gl : Gl) (cls : List (B × List Int)) : List (List B) → Except Int (List (List Int))
  | [] => .ok []
  | l :: r => match setGo gl cls [] l with
    | .error e => .error e
    | .ok x => match rowsGo gl cls r with | .error e => .error e | .ok xs => .ok (x :: xs)
/-- the set of a row: rising, each once -/
def insS (n : Int) : List Int → List Int
  | [] => [n]
  | x :: r => if n < x then n :: x :: r else if n = x then x :: r else x :: insS n r
def setOf (l : List Int) : List Int := l.foldr insS []
abbrev Ans := Except Int PS
def fin (e : Int) (s : PS) : Ans := if e = 0 then .ok s else .error e
def rUnit (s : PS) (l : List B) : Ans :=
  match l with
  | [t] => if eNum 0 t ≠ 0 then .error (eNum 0 t) else if s.unit then .error 24 else .ok { s with unit := true, f := { s.f with unit := numV t } }
  | _ => .error 22
def rAxis (s : PS) (l : List B) : Ans :=
  match l with
  | [n, a, b, c] => fin (eNum (eNum (eNum (eName 0 n) a) b) c) { s with f := { s.f with axes := s.f.axes ++ [⟨n, numV a, numV b, numV c⟩] } }
  | _ => .error 22
def tentsOf : List Int → List Tent
  | a :: b :: c :: r => ⟨a, b, c⟩ :: tentsOf r
  | _ => []
def rRegion (s : PS) (l : List B) : Ans :=
  if l.length % 3 ≠ 0 then .error 22 else fin (eNums 0 l) { s with f := { s.f with regions := s.f.regions ++ [⟨tentsOf (l.map numV)⟩] } }
def rCvt (s : PS) (l : List B) : Ans := fin (eNums 0 l) { s with f := { s.f with cvt := s.f.cvt ++ l.map numV } }
def rFunc (s : PS) (l : List B) : Ans := if opsOk l = false then .error 22 else fin (l.foldl eOp 0) { s with f := { s.f with funcs := s.f.funcs ++ [l.map vOp] } }
def rClass (gl : Gl) (s : PS) (l : List B) : Ans :=
  match l with
  | [] => .error 22
  | n :: r => match setsT r with
    | some [row] => if eName 0 n ≠ 0 then .error (eName 0 n) else match setGo gl s.cls [] row with
      | .error e => .error e
      | .ok g => if (s.cls.lookup n).isSome then .error 24 else .ok { s with cls := s.cls ++ [(n, g)] }
    | _ => .error 22
def rGlyph (gl : Gl) (s : PS) (l : List B) : Ans :=
  match l with
  | n :: a :: r => if r = [] ∨ r = [sMark] then
      (if eNum (eName 0 n) a ≠ 0 then .error (eNum (eName 0 n) a) else if vGl gl n ≠ s.f.glyphs.length then .error 24
       else .ok { s with f := { s.f with glyphs := s.f.glyphs ++ [⟨n, numV a, !r.isEmpty, [], [], [], [], [], []⟩] } })
    else .error 22
  | _ => .error 22
/-- the last glyph, turned -/
def onLast (s : PS) (h : Glyph → Glyph) : PS := { s with f := { s.f with glyphs := s.f.glyphs.dropLast ++ (s.f.glyphs.getLast?.map h).toList } }
def rContour (s : PS) (l : List B) : Ans :=
  if s.f.glyphs = [] then .error 22 else if l = [] ∨ l.all ptOk = false then .error 22
  else fin (l.foldl ePt 0) (onLast s fun g => { g with points := g.points ++ l.map vPt, ends := g.ends ++ [((g.points.length + l.length : Nat) : Int) - 1] })
def rPart (gl : Gl) (s : PS) (l : List B) : Ans :=
  if s.f.glyphs = [] then .error 22 else
  match l with
  | [n, x, y] => fin (eNum (eNum (eGl gl 0 n) x) y) (onLast s fun g => { g with parts := g.parts ++ [⟨vGl gl n, numV x, numV y⟩] })
  | _ => .error 22
def rAnchor (s : PS) (l : List B) : Ans :=
  if s.f.glyphs = [] then .error 22 else
  match l with
  | [n, c, x, y] => if kindN anchorNames n = 0 then .error 22 else fin (eNums 0 [c, x, y]) (onLast s fun g => { g with anchors := g.anchors ++ [⟨kindN anchorNames n, numV c, numV x, numV y⟩] })
  | _ => .error 22
def rDelta (s : PS) (l : List B) : Ans :=
  if s.f.glyphs = [] then .error 22 else
  match l with
  | [r, p, x, y] => fin (eNums 0 [r, p, x, y]) (onLast s fun g => { g with deltas := g.deltas ++ [⟨numV r, numV p, numV x, numV y⟩] })
  | _ => .error 22
def rHint (s : PS) (l : List B) : Ans :=
  if s.f.glyphs = [] then .error 22 else if opsOk l = false then .error 22
  else fin (l.foldl eOp 0) (onLast s fun g => { g with hint := g.hint ++ l.map vOp })
def rChar (gl : Gl) (s : PS) (l : List B) : Ans :=
  match l with
  | [c, n] => fin (eGl gl (eNum 0 c) n) { s with f := { s.f with chars := s.f.chars ++ [⟨numV c, vGl gl n⟩] } }
  | _ => .error 22
def rFeature (s : PS) (l : List B) : Ans :=
  match l with
  | n :: r => fin (eNums (eName 0 n) r) { s with f := { s.f with features := s.f.features ++ [⟨n, r.map numV⟩] } }
  | [] => .error 22
def rLookup (s : PS) (l : List B) : Ans :=
  match l with
  | k :: r => if r = [] ∨ r = [sIgnore] then (if kindN kindNames k = 0 then .error 22 else .ok { s with f := { s.f with lookups := s.f.lookups ++ [⟨kindN kindNames k, !r.isEmpty, []⟩] } }) else .error 22
  | [] => .error 22
/-- a rule's words: up to the first slash, the second one, the sign, and behind it -/
def partsGo : Nat → List B → List (List B) → List B → Option (List (List B))
  | n, cur, told, [] => if n = 3 then some (told ++ [cur]) else none
  | n, cur, told, w :: r =>
    if w ≠ [47] ∧ w ≠ [62] then partsGo n (cur ++ [w]) told r
    else if (n < 2 ∧ w = [47]) ∨ (n = 2 ∧ w = [62]) then partsGo (n + 1) [] (told ++ [cur]) r else none
def partsT (l : List B) : Option (List (List B)) := partsGo 0 [] [] l
def areOut (kind : Int) (l : List B) : Bool := if kind = 4 then callsOk l else if kind = 6 then l.length == 1 else if kind = 7 ∨ kind = 8 then l.length == 0 else true
def onLastL (s : PS) (h : Lookup → Lookup) : PS := { s with f := { s.f with lookups := s.f.lookups.dropLast ++ (s.f.lookups.getLast?.map h).toList } }
/-- what comes in the place of each glyph of the set -/
def sortOut (written names : List Int) : Except Int (List Int) :=
  if ¬ written.Nodup then .error 24 else if names.length ≠ written.length then .error 22
  else .ok ((setOf written).map (fun g => names.getD (written.idxOf g) 0))
def rRule (gl : Gl) (s : PS) (l : List B) : Ans :=
  match s.f.lookups.getLast? with
  | none => .error 22
  | some lk => match partsT l with
    | some [p0, p1, p2, p3] => match setsT p0, setsT p1, setsT p2 with
      | some w0, some w1, some w2 =>
        if (lk.kind = 1 ∨ lk.kind = 5) ∧ w1.length ≠ 1 then .error 22 else if areOut lk.kind p3 = false then .error 22 else
        match rowsGo gl s.cls w0 with
        | .error e => .error e
        | .ok b => match rowsGo gl s.cls w1 with
          | .error e => .error e
          | .ok i => match rowsGo gl s.cls w2 with
            | .error e => .error e
            | .ok a =>
              let plain := lk.kind = 1 ∨ lk.kind = 2 ∨ lk.kind = 3 ∨ lk.kind = 5
              let e := if plain then eGls gl 0 p3 else if lk.kind = 4 then p3.foldl eCall 0 else if lk.kind = 6 then eNums 0 p3 else 0
              if e ≠ 0 then .error e else
              let out := if plain then p3.map (vGl gl) else []
              let r : Rule := ⟨b.map setOf, i.map setOf, a.map setOf, out, if lk.kind = 4 then p3.map vCall else [], if lk.kind = 6 then numV (p3.headD []) else 0⟩
              if lk.kind = 1 ∨ lk.kind = 5 then (match sortOut (i.headD []) out with
                | .error e => .error e
                | .ok o => .ok (onLastL s fun lk => { lk with rules := lk.rules ++ [{ r with out := o }] }))
              else .ok (onLastL s fun lk => { lk with rules := lk.rules ++ [r] })
      | _, _, _ => .error 22
    | _ => .error 22
/-- one statement -/
def stmt (gl : Gl) (s : PS) (l : List B) : Ans :=
  match l with
  | [] => .error 22
  | w :: r =>
    if w = sUnit then rUnit s r else if w = sAxis then rAxis s r else if w = sRegion then rRegion s r else if w = sCvt then rCvt s r
    else if w = sFunc then rFunc s r else if w = sClass then rClass gl s r else if w = sGlyph then rGlyph gl s r else if w = sContour then rContour s r
    else if w = sPart then rPart gl s r else if w = sAnchor then rAnchor s r else if w = sDelta then rDelta s r else if w = sHint then rHint s r
    else if w = sChar then rChar gl s r else if w = sLookup then rLookup s r else if w = sRule then rRule gl s r else if w = sFeature then rFeature s r
    else .error 22
/-- all statements: the state, or the line of the first that is wrong, and what is -/
def stmts (gl : Gl) : PS → List (Int × List B) → Except (Int × Int) PS
  | s, [] => .ok s
  | s, (n, l) :: r => match stmt gl s l with | .error e => .error (n, e) | .ok s' => stmts gl s' r
def linesT (src : B) : List (Int × List B) := (linesL src).map (fun l => ((l.head?.map (·.1)).getD 0, l.map (·.2.2)))
def parseL (src : B) : Except (Int × Int) Fnt := (stmts (gnames 0 ((linesT src).map (·.2))) ps0 (linesT src)).map (·.f)
end Go.Proofs.YtkijckccfookeaaGreatDoor
