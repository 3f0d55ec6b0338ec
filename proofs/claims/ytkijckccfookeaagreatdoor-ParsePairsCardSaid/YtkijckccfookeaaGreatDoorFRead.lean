/- How fonts lie in memory: relations, one a struct; what the cells of an element are. Plain facts, no program. Printed by gen_fread.py. -/
import Derived.Test.YtkijckccfookeaaGreatDoorM01
namespace Go.Proofs.YtkijckccfookeaaGreatDoor
open Go.RowKit

/-- a number that fits 64 bits -/
def I64 (z : Int) : Prop := -9223372036854775808 ≤ z ∧ z ≤ 9223372036854775807
theorem I64.small {z : Int} (h1 : -1000000000 ≤ z) (h2 : z ≤ 1000000000) : I64 z := ⟨by omega, by omega⟩
def IntR : Rel Int := fun _ _ cs x => cs = [.int .i64 x] ∧ I64 x
theorem IntR.ok : IntR.Ok := ⟨fun h _ => h, fun h _ => h⟩
theorem Sl.int {w : World} {S : Bs} {A : Option Addr} {xs : List Int} (h : Sl IntR 1 w S A xs) {k : Nat} (hk : k < xs.length) : ∃ b o x, A = some ⟨b, o, none⟩ ∧ S b ∧ Hid (xs[k]? = some x) ∧ w.cell? ⟨b, o + k, none⟩ = some (.int .i64 x) ∧ I64 x := by
  obtain ⟨b, o, x, cs, e, hb, hx, hr, -, hc⟩ := h.get hk
  obtain ⟨rfl, r0⟩ := hr
  simp only [Nat.mul_one] at hc
  exact ⟨b, o, x, e, hb, hx, hc 0 _ rfl, r0⟩
def StrR : Rel B := fun _ _ cs x => cs = [.string ⟨x.toArray⟩]
theorem StrR.ok : StrR.Ok := ⟨fun h _ => h, fun h _ => h⟩
theorem Sl.str {w : World} {S : Bs} {A : Option Addr} {xs : List B} (h : Sl StrR 1 w S A xs) {k : Nat} (hk : k < xs.length) : ∃ b o x, A = some ⟨b, o, none⟩ ∧ S b ∧ Hid (xs[k]? = some x) ∧ w.cell? ⟨b, o + k, none⟩ = some (.string ⟨x.toArray⟩) := by
  obtain ⟨b, o, x, cs, e, hb, hx, hr, -, hc⟩ := h.get hk
  obtain rfl := hr
  simp only [Nat.mul_one] at hc
  exact ⟨b, o, x, e, hb, hx, hc 0 _ rfl⟩
def RowR : Rel (List Int) := SlV IntR 1
theorem RowR.ok : RowR.Ok := SlV.ok IntR.ok
theorem Sl.row {w : World} {S : Bs} {A : Option Addr} {xs : List (List Int)} (h : Sl RowR 1 w S A xs) {k : Nat} (hk : k < xs.length) : ∃ b o x A1 c1, A = some ⟨b, o, none⟩ ∧ S b ∧ Hid (xs[k]? = some x) ∧ w.cell? ⟨b, o + k, none⟩ = some (.slice A1 x.length c1) ∧ Sl IntR 1 w S A1 x := by
  obtain ⟨b, o, x, cs, e, hb, hx, hr, -, hc⟩ := h.get hk
  obtain ⟨A1, c1, rfl, h1⟩ := hr
  simp only [Nat.mul_one] at hc
  exact ⟨b, o, x, A1, c1, e, hb, hx, hc 0 _ rfl, h1⟩

def InsR : Rel Ins := fun _ _ cs x => cs = [.int .i64 x.op, .int .i64 x.a] ∧ I64 x.op ∧ I64 x.a
theorem InsR.ok : InsR.Ok := ⟨fun h _ => h, fun h _ => h⟩
theorem Sl.ins {w : World} {S : Bs} {A : Option Addr} {xs : List Ins} (h : Sl InsR 2 w S A xs) {k : Nat} (hk : k < xs.length) : ∃ b o x, A = some ⟨b, o, none⟩ ∧ S b ∧ Hid (xs[k]? = some x) ∧ w.cell? ⟨b, o + k * 2, none⟩ = some (.int .i64 x.op) ∧ w.cell? ⟨b, o + k * 2 + 1, none⟩ = some (.int .i64 x.a) ∧ I64 x.op ∧ I64 x.a := by
  obtain ⟨b, o, x, cs, e, hb, hx, hr, -, hc⟩ := h.get hk
  obtain ⟨rfl, r0, r1⟩ := hr
  exact ⟨b, o, x, e, hb, hx, hc 0 _ rfl, hc 1 _ rfl, r0, r1⟩

def CodeR : Rel (List Ins) := SlV InsR 2
theorem CodeR.ok : CodeR.Ok := SlV.ok InsR.ok
theorem Sl.code {w : World} {S : Bs} {A : Option Addr} {xs : List (List Ins)} (h : Sl CodeR 1 w S A xs) {k : Nat} (hk : k < xs.length) : ∃ b o x A1 c1, A = some ⟨b, o, none⟩ ∧ S b ∧ Hid (xs[k]? = some x) ∧ w.cell? ⟨b, o + k, none⟩ = some (.slice A1 x.length c1) ∧ Sl InsR 2 w S A1 x := by
  obtain ⟨b, o, x, cs, e, hb, hx, hr, -, hc⟩ := h.get hk
  obtain ⟨A1, c1, rfl, h1⟩ := hr
  simp only [Nat.mul_one] at hc
  exact ⟨b, o, x, A1, c1, e, hb, hx, hc 0 _ rfl, h1⟩

def PtR : Rel Pt := fun _ _ cs x => cs = [.int .i64 x.x, .int .i64 x.y, .bool x.on] ∧ I64 x.x ∧ I64 x.y
theorem PtR.ok : PtR.Ok := ⟨fun h _ => h, fun h _ => h⟩
theorem Sl.pt {w : World} {S : Bs} {A : Option Addr} {xs : List Pt} (h : Sl PtR 3 w S A xs) {k : Nat} (hk : k < xs.length) : ∃ b o x, A = some ⟨b, o, none⟩ ∧ S b ∧ Hid (xs[k]? = some x) ∧ w.cell? ⟨b, o + k * 3, none⟩ = some (.int .i64 x.x) ∧ w.cell? ⟨b, o + k * 3 + 1, none⟩ = some (.int .i64 x.y) ∧ w.cell? ⟨b, o + k * 3 + 2, none⟩ = some (.bool x.on) ∧ I64 x.x ∧ I64 x.y := by
  obtain ⟨b, o, x, cs, e, hb, hx, hr, -, hc⟩ := h.get hk
  obtain ⟨rfl, r0, r1⟩ := hr
  exact ⟨b, o, x, e, hb, hx, hc 0 _ rfl, hc 1 _ rfl, hc 2 _ rfl, r0, r1⟩

def PartR : Rel Part := fun _ _ cs x => cs = [.int .i64 x.glyph, .int .i64 x.x, .int .i64 x.y] ∧ I64 x.glyph ∧ I64 x.x ∧ I64 x.y
theorem PartR.ok : PartR.Ok := ⟨fun h _ => h, fun h _ => h⟩
theorem Sl.part {w : World} {S : Bs} {A : Option Addr} {xs : List Part} (h : Sl PartR 3 w S A xs) {k : Nat} (hk : k < xs.length) : ∃ b o x, A = some ⟨b, o, none⟩ ∧ S b ∧ Hid (xs[k]? = some x) ∧ w.cell? ⟨b, o + k * 3, none⟩ = some (.int .i64 x.glyph) ∧ w.cell? ⟨b, o + k * 3 + 1, none⟩ = some (.int .i64 x.x) ∧ w.cell? ⟨b, o + k * 3 + 2, none⟩ = some (.int .i64 x.y) ∧ I64 x.glyph ∧ I64 x.x ∧ I64 x.y := by
  obtain ⟨b, o, x, cs, e, hb, hx, hr, -, hc⟩ := h.get hk
  obtain ⟨rfl, r0, r1, r2⟩ := hr
  exact ⟨b, o, x, e, hb, hx, hc 0 _ rfl, hc 1 _ rfl, hc 2 _ rfl, r0, r1, r2⟩

def AnchorR : Rel Anchor := fun _ _ cs x => cs = [.int .i64 x.kind, .int .i64 x.cls, .int .i64 x.x, .int .i64 x.y] ∧ I64 x.kind ∧ I64 x.cls ∧ I64 x.x ∧ I64 x.y
theorem AnchorR.ok : AnchorR.Ok := ⟨fun h _ => h, fun h _ => h⟩
theorem Sl.anchor {w : World} {S : Bs} {A : Option Addr} {xs : List Anchor} (h : Sl AnchorR 4 w S A xs) {k : Nat} (hk : k < xs.length) : ∃ b o x, A = some ⟨b, o, none⟩ ∧ S b ∧ Hid (xs[k]? = some x) ∧ w.cell? ⟨b, o + k * 4, none⟩ = some (.int .i64 x.kind) ∧ w.cell? ⟨b, o + k * 4 + 1, none⟩ = some (.int .i64 x.cls) ∧ w.cell? ⟨b, o + k * 4 + 2, none⟩ = some (.int .i64 x.x) ∧ w.cell? ⟨b, o + k * 4 + 3, none⟩ = some (.int .i64 x.y) ∧ I64 x.kind ∧ I64 x.cls ∧ I64 x.x ∧ I64 x.y := by
  obtain ⟨b, o, x, cs, e, hb, hx, hr, -, hc⟩ := h.get hk
  obtain ⟨rfl, r0, r1, r2, r3⟩ := hr
  exact ⟨b, o, x, e, hb, hx, hc 0 _ rfl, hc 1 _ rfl, hc 2 _ rfl, hc 3 _ rfl, r0, r1, r2, r3⟩

def DeltaR : Rel Delta := fun _ _ cs x => cs = [.int .i64 x.region, .int .i64 x.point, .int .i64 x.x, .int .i64 x.y] ∧ I64 x.region ∧ I64 x.point ∧ I64 x.x ∧ I64 x.y
theorem DeltaR.ok : DeltaR.Ok := ⟨fun h _ => h, fun h _ => h⟩
theorem Sl.delta {w : World} {S : Bs} {A : Option Addr} {xs : List Delta} (h : Sl DeltaR 4 w S A xs) {k : Nat} (hk : k < xs.length) : ∃ b o x, A = some ⟨b, o, none⟩ ∧ S b ∧ Hid (xs[k]? = some x) ∧ w.cell? ⟨b, o + k * 4, none⟩ = some (.int .i64 x.region) ∧ w.cell? ⟨b, o + k * 4 + 1, none⟩ = some (.int .i64 x.point) ∧ w.cell? ⟨b, o + k * 4 + 2, none⟩ = some (.int .i64 x.x) ∧ w.cell? ⟨b, o + k * 4 + 3, none⟩ = some (.int .i64 x.y) ∧ I64 x.region ∧ I64 x.point ∧ I64 x.x ∧ I64 x.y := by
  obtain ⟨b, o, x, cs, e, hb, hx, hr, -, hc⟩ := h.get hk
  obtain ⟨rfl, r0, r1, r2, r3⟩ := hr
  exact ⟨b, o, x, e, hb, hx, hc 0 _ rfl, hc 1 _ rfl, hc 2 _ rfl, hc 3 _ rfl, r0, r1, r2, r3⟩

def GlyphR : Rel Glyph := fun w S cs x => ∃ A3 c3 A4 c4 A5 c5 A6 c6 A7 c7 A8 c8, cs = [.string ⟨x.name.toArray⟩, .int .i64 x.advance, .bool x.mark, .slice A3 x.points.length c3, .slice A4 x.ends.length c4, .slice A5 x.parts.length c5, .slice A6 x.anchors.length c6, .slice A7 x.deltas.length c7, .slice A8 x.hint.length c8] ∧ I64 x.advance ∧ Sl PtR 3 w S A3 x.points ∧ Sl IntR 1 w S A4 x.ends ∧ Sl PartR 3 w S A5 x.parts ∧ Sl AnchorR 4 w S A6 x.anchors ∧ Sl DeltaR 4 w S A7 x.deltas ∧ Sl InsR 2 w S A8 x.hint
theorem GlyphR.ok : GlyphR.Ok := ⟨fun ⟨A3, c3, A4, c4, A5, c5, A6, c6, A7, c7, A8, c8, e, r1, h3, h4, h5, h6, h7, h8⟩ hs => ⟨A3, c3, A4, c4, A5, c5, A6, c6, A7, c7, A8, c8, e, r1, h3.keep PtR.ok hs, h4.keep IntR.ok hs, h5.keep PartR.ok hs, h6.keep AnchorR.ok hs, h7.keep DeltaR.ok hs, h8.keep InsR.ok hs⟩, fun ⟨A3, c3, A4, c4, A5, c5, A6, c6, A7, c7, A8, c8, e, r1, h3, h4, h5, h6, h7, h8⟩ hs => ⟨A3, c3, A4, c4, A5, c5, A6, c6, A7, c7, A8, c8, e, r1, h3.mono PtR.ok hs, h4.mono IntR.ok hs, h5.mono PartR.ok hs, h6.mono AnchorR.ok hs, h7.mono DeltaR.ok hs, h8.mono InsR.ok hs⟩⟩
theorem Sl.glyph {w : World} {S : Bs} {A : Option Addr} {xs : List Glyph} (h : Sl GlyphR 9 w S A xs) {k : Nat} (hk : k < xs.length) : ∃ b o x A3 c3 A4 c4 A5 c5 A6 c6 A7 c7 A8 c8, A = some ⟨b, o, none⟩ ∧ S b ∧ Hid (xs[k]? = some x) ∧ w.cell? ⟨b, o + k * 9, none⟩ = some (.string ⟨x.name.toArray⟩) ∧ w.cell? ⟨b, o + k * 9 + 1, none⟩ = some (.int .i64 x.advance) ∧ w.cell? ⟨b, o + k * 9 + 2, none⟩ = some (.bool x.mark) ∧ w.cell? ⟨b, o + k * 9 + 3, none⟩ = some (.slice A3 x.points.length c3) ∧ w.cell? ⟨b, o + k * 9 + 4, none⟩ = some (.slice A4 x.ends.length c4) ∧ w.cell? ⟨b, o + k * 9 + 5, none⟩ = some (.slice A5 x.parts.length c5) ∧ w.cell? ⟨b, o + k * 9 + 6, none⟩ = some (.slice A6 x.anchors.length c6) ∧ w.cell? ⟨b, o + k * 9 + 7, none⟩ = some (.slice A7 x.deltas.length c7) ∧ w.cell? ⟨b, o + k * 9 + 8, none⟩ = some (.slice A8 x.hint.length c8) ∧ I64 x.advance ∧ Sl PtR 3 w S A3 x.points ∧ Sl IntR 1 w S A4 x.ends ∧ Sl PartR 3 w S A5 x.parts ∧ Sl AnchorR 4 w S A6 x.anchors ∧ Sl DeltaR 4 w S A7 x.deltas ∧ Sl InsR 2 w S A8 x.hint := by
  obtain ⟨b, o, x, cs, e, hb, hx, hr, -, hc⟩ := h.get hk
  obtain ⟨A3, c3, A4, c4, A5, c5, A6, c6, A7, c7, A8, c8, rfl, r1, h3, h4, h5, h6, h7, h8⟩ := hr
  exact ⟨b, o, x, A3, c3, A4, c4, A5, c5, A6, c6, A7, c7, A8, c8, e, hb, hx, hc 0 _ rfl, hc 1 _ rfl, hc 2 _ rfl, hc 3 _ rfl, hc 4 _ rfl, hc 5 _ rfl, hc 6 _ rfl, hc 7 _ rfl, hc 8 _ rfl, r1, h3, h4, h5, h6, h7, h8⟩

def ChrR : Rel Chr := fun _ _ cs x => cs = [.int .i64 x.rune, .int .i64 x.glyph] ∧ I64 x.rune ∧ I64 x.glyph
theorem ChrR.ok : ChrR.Ok := ⟨fun h _ => h, fun h _ => h⟩
theorem Sl.chr {w : World} {S : Bs} {A : Option Addr} {xs : List Chr} (h : Sl ChrR 2 w S A xs) {k : Nat} (hk : k < xs.length) : ∃ b o x, A = some ⟨b, o, none⟩ ∧ S b ∧ Hid (xs[k]? = some x) ∧ w.cell? ⟨b, o + k * 2, none⟩ = some (.int .i64 x.rune) ∧ w.cell? ⟨b, o + k * 2 + 1, none⟩ = some (.int .i64 x.glyph) ∧ I64 x.rune ∧ I64 x.glyph := by
  obtain ⟨b, o, x, cs, e, hb, hx, hr, -, hc⟩ := h.get hk
  obtain ⟨rfl, r0, r1⟩ := hr
  exact ⟨b, o, x, e, hb, hx, hc 0 _ rfl, hc 1 _ rfl, r0, r1⟩

def CallR : Rel Call := fun _ _ cs x => cs = [.int .i64 x.at', .int .i64 x.lookup] ∧ I64 x.at' ∧ I64 x.lookup
theorem CallR.ok : CallR.Ok := ⟨fun h _ => h, fun h _ => h⟩
theorem Sl.call {w : World} {S : Bs} {A : Option Addr} {xs : List Call} (h : Sl CallR 2 w S A xs) {k : Nat} (hk : k < xs.length) : ∃ b o x, A = some ⟨b, o, none⟩ ∧ S b ∧ Hid (xs[k]? = some x) ∧ w.cell? ⟨b, o + k * 2, none⟩ = some (.int .i64 x.at') ∧ w.cell? ⟨b, o + k * 2 + 1, none⟩ = some (.int .i64 x.lookup) ∧ I64 x.at' ∧ I64 x.lookup := by
  obtain ⟨b, o, x, cs, e, hb, hx, hr, -, hc⟩ := h.get hk
  obtain ⟨rfl, r0, r1⟩ := hr
  exact ⟨b, o, x, e, hb, hx, hc 0 _ rfl, hc 1 _ rfl, r0, r1⟩

def RuleR : Rel Rule := fun w S cs x => ∃ A0 c0 A1 c1 A2 c2 A3 c3 A4 c4, cs = [.slice A0 x.back.length c0, .slice A1 x.in'.length c1, .slice A2 x.ahead.length c2, .slice A3 x.out.length c3, .slice A4 x.calls.length c4, .int .i64 x.x] ∧ I64 x.x ∧ Sl RowR 1 w S A0 x.back ∧ Sl RowR 1 w S A1 x.in' ∧ Sl RowR 1 w S A2 x.ahead ∧ Sl IntR 1 w S A3 x.out ∧ Sl CallR 2 w S A4 x.calls
theorem RuleR.ok : RuleR.Ok := ⟨fun ⟨A0, c0, A1, c1, A2, c2, A3, c3, A4, c4, e, r5, h0, h1, h2, h3, h4⟩ hs => ⟨A0, c0, A1, c1, A2, c2, A3, c3, A4, c4, e, r5, h0.keep RowR.ok hs, h1.keep RowR.ok hs, h2.keep RowR.ok hs, h3.keep IntR.ok hs, h4.keep CallR.ok hs⟩, fun ⟨A0, c0, A1, c1, A2, c2, A3, c3, A4, c4, e, r5, h0, h1, h2, h3, h4⟩ hs => ⟨A0, c0, A1, c1, A2, c2, A3, c3, A4, c4, e, r5, h0.mono RowR.ok hs, h1.mono RowR.ok hs, h2.mono RowR.ok hs, h3.mono IntR.ok hs, h4.mono CallR.ok hs⟩⟩
theorem Sl.rule {w : World} {S : Bs} {A : Option Addr} {xs : List Rule} (h : Sl RuleR 6 w S A xs) {k : Nat} (hk : k < xs.length) : ∃ b o x A0 c0 A1 c1 A2 c2 A3 c3 A4 c4, A = some ⟨b, o, none⟩ ∧ S b ∧ Hid (xs[k]? = some x) ∧ w.cell? ⟨b, o + k * 6, none⟩ = some (.slice A0 x.back.length c0) ∧ w.cell? ⟨b, o + k * 6 + 1, none⟩ = some (.slice A1 x.in'.length c1) ∧ w.cell? ⟨b, o + k * 6 + 2, none⟩ = some (.slice A2 x.ahead.length c2) ∧ w.cell? ⟨b, o + k * 6 + 3, none⟩ = some (.slice A3 x.out.length c3) ∧ w.cell? ⟨b, o + k * 6 + 4, none⟩ = some (.slice A4 x.calls.length c4) ∧ w.cell? ⟨b, o + k * 6 + 5, none⟩ = some (.int .i64 x.x) ∧ I64 x.x ∧ Sl RowR 1 w S A0 x.back ∧ Sl RowR 1 w S A1 x.in' ∧ Sl RowR 1 w S A2 x.ahead ∧ Sl IntR 1 w S A3 x.out ∧ Sl CallR 2 w S A4 x.calls := by
  obtain ⟨b, o, x, cs, e, hb, hx, hr, -, hc⟩ := h.get hk
  obtain ⟨A0, c0, A1, c1, A2, c2, A3, c3, A4, c4, rfl, r5, h0, h1, h2, h3, h4⟩ := hr
  exact ⟨b, o, x, A0, c0, A1, c1, A2, c2, A3, c3, A4, c4, e, hb, hx, hc 0 _ rfl, hc 1 _ rfl, hc 2 _ rfl, hc 3 _ rfl, hc 4 _ rfl, hc 5 _ rfl, r5, h0, h1, h2, h3, h4⟩

def LookupR : Rel Lookup := fun w S cs x => ∃ A2 c2, cs = [.int .i64 x.kind, .bool x.ignore, .slice A2 x.rules.length c2] ∧ I64 x.kind ∧ Sl RuleR 6 w S A2 x.rules
theorem LookupR.ok : LookupR.Ok := ⟨fun ⟨A2, c2, e, r0, h2⟩ hs => ⟨A2, c2, e, r0, h2.keep RuleR.ok hs⟩, fun ⟨A2, c2, e, r0, h2⟩ hs => ⟨A2, c2, e, r0, h2.mono RuleR.ok hs⟩⟩
theorem Sl.lookup {w : World} {S : Bs} {A : Option Addr} {xs : List Lookup} (h : Sl LookupR 3 w S A xs) {k : Nat} (hk : k < xs.length) : ∃ b o x A2 c2, A = some ⟨b, o, none⟩ ∧ S b ∧ Hid (xs[k]? = some x) ∧ w.cell? ⟨b, o + k * 3, none⟩ = some (.int .i64 x.kind) ∧ w.cell? ⟨b, o + k * 3 + 1, none⟩ = some (.bool x.ignore) ∧ w.cell? ⟨b, o + k * 3 + 2, none⟩ = some (.slice A2 x.rules.length c2) ∧ I64 x.kind ∧ Sl RuleR 6 w S A2 x.rules := by
  obtain ⟨b, o, x, cs, e, hb, hx, hr, -, hc⟩ := h.get hk
  obtain ⟨A2, c2, rfl, r0, h2⟩ := hr
  exact ⟨b, o, x, A2, c2, e, hb, hx, hc 0 _ rfl, hc 1 _ rfl, hc 2 _ rfl, r0, h2⟩

def FeatureR : Rel Feature := fun w S cs x => ∃ A1 c1, cs = [.string ⟨x.name.toArray⟩, .slice A1 x.lookups.length c1] ∧ Sl IntR 1 w S A1 x.lookups
theorem FeatureR.ok : FeatureR.Ok := ⟨fun ⟨A1, c1, e, h1⟩ hs => ⟨A1, c1, e, h1.keep IntR.ok hs⟩, fun ⟨A1, c1, e, h1⟩ hs => ⟨A1, c1, e, h1.mono IntR.ok hs⟩⟩
theorem Sl.feature {w : World} {S : Bs} {A : Option Addr} {xs : List Feature} (h : Sl FeatureR 2 w S A xs) {k : Nat} (hk : k < xs.length) : ∃ b o x A1 c1, A = some ⟨b, o, none⟩ ∧ S b ∧ Hid (xs[k]? = some x) ∧ w.cell? ⟨b, o + k * 2, none⟩ = some (.string ⟨x.name.toArray⟩) ∧ w.cell? ⟨b, o + k * 2 + 1, none⟩ = some (.slice A1 x.lookups.length c1) ∧ Sl IntR 1 w S A1 x.lookups := by
  obtain ⟨b, o, x, cs, e, hb, hx, hr, -, hc⟩ := h.get hk
  obtain ⟨A1, c1, rfl, h1⟩ := hr
  exact ⟨b, o, x, A1, c1, e, hb, hx, hc 0 _ rfl, hc 1 _ rfl, h1⟩

def AxisR : Rel Axis := fun _ _ cs x => cs = [.string ⟨x.name.toArray⟩, .int .i64 x.min', .int .i64 x.def', .int .i64 x.max'] ∧ I64 x.min' ∧ I64 x.def' ∧ I64 x.max'
theorem AxisR.ok : AxisR.Ok := ⟨fun h _ => h, fun h _ => h⟩
theorem Sl.axis {w : World} {S : Bs} {A : Option Addr} {xs : List Axis} (h : Sl AxisR 4 w S A xs) {k : Nat} (hk : k < xs.length) : ∃ b o x, A = some ⟨b, o, none⟩ ∧ S b ∧ Hid (xs[k]? = some x) ∧ w.cell? ⟨b, o + k * 4, none⟩ = some (.string ⟨x.name.toArray⟩) ∧ w.cell? ⟨b, o + k * 4 + 1, none⟩ = some (.int .i64 x.min') ∧ w.cell? ⟨b, o + k * 4 + 2, none⟩ = some (.int .i64 x.def') ∧ w.cell? ⟨b, o + k * 4 + 3, none⟩ = some (.int .i64 x.max') ∧ I64 x.min' ∧ I64 x.def' ∧ I64 x.max' := by
  obtain ⟨b, o, x, cs, e, hb, hx, hr, -, hc⟩ := h.get hk
  obtain ⟨rfl, r1, r2, r3⟩ := hr
  exact ⟨b, o, x, e, hb, hx, hc 0 _ rfl, hc 1 _ rfl, hc 2 _ rfl, hc 3 _ rfl, r1, r2, r3⟩

def TentR : Rel Tent := fun _ _ cs x => cs = [.int .i64 x.start, .int .i64 x.peak, .int .i64 x.stop] ∧ I64 x.start ∧ I64 x.peak ∧ I64 x.stop
theorem TentR.ok : TentR.Ok := ⟨fun h _ => h, fun h _ => h⟩
theorem Sl.tent {w : World} {S : Bs} {A : Option Addr} {xs : List Tent} (h : Sl TentR 3 w S A xs) {k : Nat} (hk : k < xs.length) : ∃ b o x, A = some ⟨b, o, none⟩ ∧ S b ∧ Hid (xs[k]? = some x) ∧ w.cell? ⟨b, o + k * 3, none⟩ = some (.int .i64 x.start) ∧ w.cell? ⟨b, o + k * 3 + 1, none⟩ = some (.int .i64 x.peak) ∧ w.cell? ⟨b, o + k * 3 + 2, none⟩ = some (.int .i64 x.stop) ∧ I64 x.start ∧ I64 x.peak ∧ I64 x.stop := by
  obtain ⟨b, o, x, cs, e, hb, hx, hr, -, hc⟩ := h.get hk
  obtain ⟨rfl, r0, r1, r2⟩ := hr
  exact ⟨b, o, x, e, hb, hx, hc 0 _ rfl, hc 1 _ rfl, hc 2 _ rfl, r0, r1, r2⟩

def RegionR : Rel Region := fun w S cs x => ∃ A0 c0, cs = [.slice A0 x.tents.length c0] ∧ Sl TentR 3 w S A0 x.tents
theorem RegionR.ok : RegionR.Ok := ⟨fun ⟨A0, c0, e, h0⟩ hs => ⟨A0, c0, e, h0.keep TentR.ok hs⟩, fun ⟨A0, c0, e, h0⟩ hs => ⟨A0, c0, e, h0.mono TentR.ok hs⟩⟩
theorem Sl.region {w : World} {S : Bs} {A : Option Addr} {xs : List Region} (h : Sl RegionR 1 w S A xs) {k : Nat} (hk : k < xs.length) : ∃ b o x A0 c0, A = some ⟨b, o, none⟩ ∧ S b ∧ Hid (xs[k]? = some x) ∧ w.cell? ⟨b, o + k, none⟩ = some (.slice A0 x.tents.length c0) ∧ Sl TentR 3 w S A0 x.tents := by
  obtain ⟨b, o, x, cs, e, hb, hx, hr, -, hc⟩ := h.get hk
  obtain ⟨A0, c0, rfl, h0⟩ := hr
  simp only [Nat.mul_one] at hc
  exact ⟨b, o, x, A0, c0, e, hb, hx, hc 0 _ rfl, h0⟩

def FntR : Rel Fnt := fun w S cs x => ∃ A1 c1 A2 c2 A3 c3 A4 c4 A5 c5 A6 c6 A7 c7 A8 c8, cs = [.int .i64 x.unit, .slice A1 x.glyphs.length c1, .slice A2 x.chars.length c2, .slice A3 x.lookups.length c3, .slice A4 x.features.length c4, .slice A5 x.axes.length c5, .slice A6 x.regions.length c6, .slice A7 x.funcs.length c7, .slice A8 x.cvt.length c8] ∧ I64 x.unit ∧ Sl GlyphR 9 w S A1 x.glyphs ∧ Sl ChrR 2 w S A2 x.chars ∧ Sl LookupR 3 w S A3 x.lookups ∧ Sl FeatureR 2 w S A4 x.features ∧ Sl AxisR 4 w S A5 x.axes ∧ Sl RegionR 1 w S A6 x.regions ∧ Sl CodeR 1 w S A7 x.funcs ∧ Sl IntR 1 w S A8 x.cvt
theorem FntR.ok : FntR.Ok := ⟨fun ⟨A1, c1, A2, c2, A3, c3, A4, c4, A5, c5, A6, c6, A7, c7, A8, c8, e, r0, h1, h2, h3, h4, h5, h6, h7, h8⟩ hs => ⟨A1, c1, A2, c2, A3, c3, A4, c4, A5, c5, A6, c6, A7, c7, A8, c8, e, r0, h1.keep GlyphR.ok hs, h2.keep ChrR.ok hs, h3.keep LookupR.ok hs, h4.keep FeatureR.ok hs, h5.keep AxisR.ok hs, h6.keep RegionR.ok hs, h7.keep CodeR.ok hs, h8.keep IntR.ok hs⟩, fun ⟨A1, c1, A2, c2, A3, c3, A4, c4, A5, c5, A6, c6, A7, c7, A8, c8, e, r0, h1, h2, h3, h4, h5, h6, h7, h8⟩ hs => ⟨A1, c1, A2, c2, A3, c3, A4, c4, A5, c5, A6, c6, A7, c7, A8, c8, e, r0, h1.mono GlyphR.ok hs, h2.mono ChrR.ok hs, h3.mono LookupR.ok hs, h4.mono FeatureR.ok hs, h5.mono AxisR.ok hs, h6.mono RegionR.ok hs, h7.mono CodeR.ok hs, h8.mono IntR.ok hs⟩⟩
theorem Sl.fnt {w : World} {S : Bs} {A : Option Addr} {xs : List Fnt} (h : Sl FntR 9 w S A xs) {k : Nat} (hk : k < xs.length) : ∃ b o x A1 c1 A2 c2 A3 c3 A4 c4 A5 c5 A6 c6 A7 c7 A8 c8, A = some ⟨b, o, none⟩ ∧ S b ∧ Hid (xs[k]? = some x) ∧ w.cell? ⟨b, o + k * 9, none⟩ = some (.int .i64 x.unit) ∧ w.cell? ⟨b, o + k * 9 + 1, none⟩ = some (.slice A1 x.glyphs.length c1) ∧ w.cell? ⟨b, o + k * 9 + 2, none⟩ = some (.slice A2 x.chars.length c2) ∧ w.cell? ⟨b, o + k * 9 + 3, none⟩ = some (.slice A3 x.lookups.length c3) ∧ w.cell? ⟨b, o + k * 9 + 4, none⟩ = some (.slice A4 x.features.length c4) ∧ w.cell? ⟨b, o + k * 9 + 5, none⟩ = some (.slice A5 x.axes.length c5) ∧ w.cell? ⟨b, o + k * 9 + 6, none⟩ = some (.slice A6 x.regions.length c6) ∧ w.cell? ⟨b, o + k * 9 + 7, none⟩ = some (.slice A7 x.funcs.length c7) ∧ w.cell? ⟨b, o + k * 9 + 8, none⟩ = some (.slice A8 x.cvt.length c8) ∧ I64 x.unit ∧ Sl GlyphR 9 w S A1 x.glyphs ∧ Sl ChrR 2 w S A2 x.chars ∧ Sl LookupR 3 w S A3 x.lookups ∧ Sl FeatureR 2 w S A4 x.features ∧ Sl AxisR 4 w S A5 x.axes ∧ Sl RegionR 1 w S A6 x.regions ∧ Sl CodeR 1 w S A7 x.funcs ∧ Sl IntR 1 w S A8 x.cvt := by
  obtain ⟨b, o, x, cs, e, hb, hx, hr, -, hc⟩ := h.get hk
  obtain ⟨A1, c1, A2, c2, A3, c3, A4, c4, A5, c5, A6, c6, A7, c7, A8, c8, rfl, r0, h1, h2, h3, h4, h5, h6, h7, h8⟩ := hr
  exact ⟨b, o, x, A1, c1, A2, c2, A3, c3, A4, c4, A5, c5, A6, c6, A7, c7, A8, c8, e, hb, hx, hc 0 _ rfl, hc 1 _ rfl, hc 2 _ rfl, hc 3 _ rfl, hc 4 _ rfl, hc 5 _ rfl, hc 6 _ rfl, hc 7 _ rfl, hc 8 _ rfl, r0, h1, h2, h3, h4, h5, h6, h7, h8⟩

end Go.Proofs.YtkijckccfookeaaGreatDoor
