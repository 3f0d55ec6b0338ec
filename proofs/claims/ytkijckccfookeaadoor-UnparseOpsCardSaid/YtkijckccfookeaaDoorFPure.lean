/- Plain Lean: fonts as data, and their sources (unparse) as bytes. Printed by gen_fpure.py. -/
import Derived.Lib.ItoaNum
import Derived.Test.YtkijckccfookeaaDoorPure
namespace Go.Proofs.YtkijckccfookeaaDoor

structure Ins where
  op : Int
  a : Int
  deriving DecidableEq
structure Pt where
  x : Int
  y : Int
  on : Bool
  deriving DecidableEq
structure Part where
  glyph : Int
  x : Int
  y : Int
  deriving DecidableEq
structure Anchor where
  kind : Int
  cls : Int
  x : Int
  y : Int
  deriving DecidableEq
structure Delta where
  region : Int
  point : Int
  x : Int
  y : Int
  deriving DecidableEq
structure Glyph where
  name : B
  advance : Int
  mark : Bool
  points : List Pt
  ends : List Int
  parts : List Part
  anchors : List Anchor
  deltas : List Delta
  hint : List Ins
  deriving DecidableEq
structure Chr where
  rune : Int
  glyph : Int
  deriving DecidableEq
structure Call where
  at' : Int
  lookup : Int
  deriving DecidableEq
structure Rule where
  back : List (List Int)
  in' : List (List Int)
  ahead : List (List Int)
  out : List Int
  calls : List Call
  x : Int
  deriving DecidableEq
structure Lookup where
  kind : Int
  ignore : Bool
  rules : List Rule
  deriving DecidableEq
structure Feature where
  name : B
  lookups : List Int
  deriving DecidableEq
structure Axis where
  name : B
  min' : Int
  def' : Int
  max' : Int
  deriving DecidableEq
structure Tent where
  start : Int
  peak : Int
  stop : Int
  deriving DecidableEq
structure Region where
  tents : List Tent
  deriving DecidableEq
structure Fnt where
  unit : Int
  glyphs : List Glyph
  chars : List Chr
  lookups : List Lookup
  features : List Feature
  axes : List Axis
  regions : List Region
  funcs : List (List Ins)
  cvt : List Int
  deriving DecidableEq

def opNames : List B := [[112, 117, 115, 104], [112, 111, 112], [100, 117, 112], [115, 119, 97, 112], [97, 100, 100], [115, 117, 98], [109, 117, 108], [100, 105, 118], [110, 101, 103], [97, 98, 115], [109, 105, 110], [109, 97, 120], [102, 108, 111, 111, 114], [99, 101, 105, 108], [114, 111, 117, 110, 100], [108, 116], [108, 101], [101, 113], [110, 111, 116], [97, 110, 100], [111, 114], [112, 114, 111, 106], [102, 114, 101, 101], [109, 111, 100, 101], [99, 118, 116], [115, 101, 116, 99, 118, 116], [108, 111, 97, 100], [115, 97, 118, 101], [103, 101, 116], [111, 114, 103], [109, 111, 118, 101], [115, 101, 116], [97, 108, 105, 103, 110], [105, 110, 116, 101, 114], [106, 117, 109, 112], [106, 117, 109, 112, 122], [99, 97, 108, 108, 102], [108, 111, 111, 112], [115, 105, 122, 101]]
def anchorNames : List B := [[98, 97, 115, 101], [109, 97, 114, 107], [101, 110, 116, 114, 121], [101, 120, 105, 116]]
def kindNames : List B := [[115, 105, 110, 103, 108, 101], [109, 117, 108, 116, 105, 112, 108, 101], [108, 105, 103, 97, 116, 117, 114, 101], [99, 104, 97, 105, 110], [114, 101, 118, 101, 114, 115, 101], [112, 97, 105, 114], [99, 117, 114, 115, 105, 118, 101], [109, 97, 114, 107, 115]]
abbrev sUnit : B := [117, 110, 105, 116]
abbrev sAxis : B := [97, 120, 105, 115]
abbrev sRegion : B := [114, 101, 103, 105, 111, 110]
abbrev sCvt : B := [99, 118, 116]
abbrev sFunc : B := [102, 117, 110, 99]
abbrev sGlyph : B := [103, 108, 121, 112, 104]
abbrev sMark : B := [109, 97, 114, 107]
abbrev sContour : B := [99, 111, 110, 116, 111, 117, 114]
abbrev sPart : B := [112, 97, 114, 116]
abbrev sAnchor : B := [97, 110, 99, 104, 111, 114]
abbrev sDelta : B := [100, 101, 108, 116, 97]
abbrev sHint : B := [104, 105, 110, 116]
abbrev sChar : B := [99, 104, 97, 114]
abbrev sLookup : B := [108, 111, 111, 107, 117, 112]
abbrev sIgnore : B := [105, 103, 110, 111, 114, 101]
abbrev sRule : B := [114, 117, 108, 101]
abbrev sFeature : B := [102, 101, 97, 116, 117, 114, 101]
abbrev sClass : B := [99, 108, 97, 115, 115]
/-- one of some names, from 1 on -/
def pick (l : List B) (n : Int) : B := if n < 1 then [63] else (l[(n - 1).toNat]?).getD [63]
def opB (n : Int) : B := pick opNames n
def itB (n : Int) : B := Lib.itoa n
def moreB (more : List B) : B := more.flatMap (fun w => 32 :: w)
def lineB (first : B) (more : List B) : B := first ++ moreB more ++ [10]
def insB (i : Ins) : B := opB i.op ++ if i.a = 0 then [] else 58 :: itB i.a
def gnB (gs : List Glyph) (n : Int) : B := if n < 0 then 63 :: itB n else match gs[n.toNat]? with | some g => g.name | none => 63 :: itB n
def setW (gs : List Glyph) (l : List Int) : List B := match l with | [n] => [gnB gs n] | _ => [91] :: l.map (gnB gs) ++ [[93]]
def setsW (gs : List Glyph) (l : List (List Int)) : List B := l.flatMap (setW gs)
def outW (gs : List Glyph) (kind : Int) (r : Rule) : List B :=
  if kind = 1 ∨ kind = 2 ∨ kind = 3 ∨ kind = 5 then r.out.map (gnB gs)
  else if kind = 4 then r.calls.map (fun c => itB c.at' ++ 58 :: itB c.lookup)
  else if kind = 6 then [itB r.x] else []
def ruleW (gs : List Glyph) (kind : Int) (r : Rule) : List B := setsW gs r.back ++ [47] :: setsW gs r.in' ++ [47] :: setsW gs r.ahead ++ [62] :: outW gs kind r
def ruleB (gs : List Glyph) (kind : Int) (r : Rule) : B := lineB sRule (ruleW gs kind r)
def lookupB (gs : List Glyph) (l : Lookup) : B := lineB sLookup (pick kindNames l.kind :: if l.ignore then [sIgnore] else []) ++ l.rules.flatMap (ruleB gs l.kind)
def ptB (p : Pt) : B := itB p.x ++ 44 :: itB p.y ++ if p.on then [] else [42]
/-- the contours of points: what stands up to each end, up to the first end that is wrong -/
def contsFrom (pts : List Pt) : Nat → List Int → List (List Pt)
  | _, [] => []
  | fr, e :: es => if e < (fr : Int) ∨ (pts.length : Int) ≤ e then [] else ((pts.take (e.toNat + 1)).drop fr) :: contsFrom pts (e.toNat + 1) es
def glyphB (gs : List Glyph) (g : Glyph) : B :=
  lineB sGlyph (g.name :: itB g.advance :: if g.mark then [sMark] else []) ++
  (contsFrom g.points 0 g.ends).flatMap (fun c => lineB sContour (c.map ptB)) ++
  g.parts.flatMap (fun p => lineB sPart [gnB gs p.glyph, itB p.x, itB p.y]) ++
  g.anchors.flatMap (fun a => lineB sAnchor [pick anchorNames a.kind, itB a.cls, itB a.x, itB a.y]) ++
  g.deltas.flatMap (fun d => lineB sDelta [itB d.region, itB d.point, itB d.x, itB d.y]) ++
  if g.hint.isEmpty then [] else lineB sHint (g.hint.map insB)
def axisB (a : Axis) : B := lineB sAxis [a.name, itB a.min', itB a.def', itB a.max']
def tentW (t : Tent) : List B := [itB t.start, itB t.peak, itB t.stop]
def regionB (r : Region) : B := lineB sRegion (r.tents.flatMap tentW)
def funcB (p : List Ins) : B := lineB sFunc (p.map insB)
def charB (gs : List Glyph) (c : Chr) : B := lineB sChar [itB c.rune, gnB gs c.glyph]
def featureB (x : Feature) : B := lineB sFeature (x.name :: x.lookups.map itB)
def fontB (f : Fnt) : B :=
  lineB sUnit [itB f.unit] ++
  f.axes.flatMap axisB ++
  f.regions.flatMap regionB ++
  (if f.cvt.isEmpty then [] else lineB sCvt (f.cvt.map itB)) ++
  f.funcs.flatMap funcB ++
  f.glyphs.flatMap (glyphB f.glyphs) ++
  f.chars.flatMap (charB f.glyphs) ++
  f.lookups.flatMap (lookupB f.glyphs) ++
  f.features.flatMap featureB
end Go.Proofs.YtkijckccfookeaaDoor
