/- Lemmas. -/
import Derived.Test.YtkijckccfookeaaDoorX02
set_option linter.unusedVariables false
set_option linter.unusedSimpArgs false
namespace Go.Proofs.YtkijckccfookeaaDoor
section
open Go.RowKit
def I64 (z:Int):Prop:= -9223372036854775808<=z/\z<=9223372036854775807
theorem I64.small {z:Int}(h1: -1000000000<=z)(h2:z<=1000000000):I64 z:=⟨by omega,by omega⟩
def aeQ:Rel Int:=fun _ _ cs x=>cs=[.int .i64 x]/\I64 x
theorem aeQ.ok:aeQ.Ok:=⟨fun h _=>h,fun h _=>h⟩
theorem Sl.int {w:World}{S:Bs}{A:Option Addr}{xs:List Int}(h:Sl aeQ 1 w S A xs){k:Nat}(hk:k<xs.length):∃b o x,A=some ⟨b,o,none⟩/\S b/\Hid (xs[k]? =some x)/\w.cell? ⟨b,o+k,none⟩=some (.int .i64 x)/\I64 x:=by obtain⟨b,o,x,cs,e,hb,hx,hr,-,hc⟩:=h.get hk;obtain⟨rfl,r0⟩:=hr;simp only[Nat.mul_one] at hc;exact⟨b,o,x,e,hb,hx,hc 0 _ rfl,r0⟩
def afJ:Rel B:=fun _ _ cs x=>cs=[.string ⟨x.toArray⟩]
theorem afJ.ok:afJ.Ok:=⟨fun h _=>h,fun h _=>h⟩
theorem Sl.str {w:World}{S:Bs}{A:Option Addr}{xs:List B}(h:Sl afJ 1 w S A xs){k:Nat}(hk:k<xs.length):∃b o x,A=some ⟨b,o,none⟩/\S b/\Hid (xs[k]? =some x)/\w.cell? ⟨b,o+k,none⟩=some (.string ⟨x.toArray⟩):=by obtain⟨b,o,x,cs,e,hb,hx,hr,-,hc⟩:=h.get hk;obtain rfl:=hr;simp only[Nat.mul_one] at hc;exact⟨b,o,x,e,hb,hx,hc 0 _ rfl⟩
def aeR:Rel (List Int):=SlV aeQ 1
theorem aeR.ok:aeR.Ok:=SlV.ok aeQ.ok
theorem Sl.row {w:World}{S:Bs}{A:Option Addr}{xs:List (List Int)}(h:Sl aeR 1 w S A xs){k:Nat}(hk:k<xs.length):∃b o x A1 c1,A=some ⟨b,o,none⟩/\S b/\Hid (xs[k]? =some x)/\w.cell? ⟨b,o+k,none⟩=some (.slice A1 x.length c1)/\Sl aeQ 1 w S A1 x:=by obtain⟨b,o,x,cs,e,hb,hx,hr,-,hc⟩:=h.get hk;obtain⟨A1,c1,rfl,h1⟩:=hr;simp only[Nat.mul_one] at hc;exact⟨b,o,x,A1,c1,e,hb,hx,hc 0 _ rfl,h1⟩
def ae9:Rel Ins:=fun _ _ cs x=>cs=[.int .i64 x.op,.int .i64 x.a]/\I64 x.op/\I64 x.a
theorem ae9.ok:ae9.Ok:=⟨fun h _=>h,fun h _=>h⟩
theorem Sl.ins {w:World}{S:Bs}{A:Option Addr}{xs:List Ins}(h:Sl ae9 2 w S A xs){k:Nat}(hk:k<xs.length):∃b o x,A=some ⟨b,o,none⟩/\S b/\Hid (xs[k]? =some x)/\w.cell? ⟨b,o+k*2,none⟩=some (.int .i64 x.op)/\w.cell? ⟨b,o+k*2+1,none⟩=some (.int .i64 x.a)/\I64 x.op/\I64 x.a:=by obtain⟨b,o,x,cs,e,hb,hx,hr,-,hc⟩:=h.get hk;obtain⟨rfl,r0,r1⟩:=hr;exact⟨b,o,x,e,hb,hx,hc 0 _ rfl,hc 1 _ rfl,r0,r1⟩
def ae1:Rel (List Ins):=SlV ae9 2
theorem ae1.ok:ae1.Ok:=SlV.ok ae9.ok
theorem Sl.code {w:World}{S:Bs}{A:Option Addr}{xs:List (List Ins)}(h:Sl ae1 1 w S A xs){k:Nat}(hk:k<xs.length):∃b o x A1 c1,A=some ⟨b,o,none⟩/\S b/\Hid (xs[k]? =some x)/\w.cell? ⟨b,o+k,none⟩=some (.slice A1 x.length c1)/\Sl ae9 2 w S A1 x:=by obtain⟨b,o,x,cs,e,hb,hx,hr,-,hc⟩:=h.get hk;obtain⟨A1,c1,rfl,h1⟩:=hr;simp only[Nat.mul_one] at hc;exact⟨b,o,x,A1,c1,e,hb,hx,hc 0 _ rfl,h1⟩
def PtR:Rel Pt:=fun _ _ cs x=>cs=[.int .i64 x.x,.int .i64 x.y,.bool x.on]/\I64 x.x/\I64 x.y
theorem PtR.ok:PtR.Ok:=⟨fun h _=>h,fun h _=>h⟩
theorem Sl.pt {w:World}{S:Bs}{A:Option Addr}{xs:List Pt}(h:Sl PtR 3 w S A xs){k:Nat}(hk:k<xs.length):∃b o x,A=some ⟨b,o,none⟩/\S b/\Hid (xs[k]? =some x)/\w.cell? ⟨b,o+k*3,none⟩=some (.int .i64 x.x)/\w.cell? ⟨b,o+k*3+1,none⟩=some (.int .i64 x.y)/\w.cell? ⟨b,o+k*3+2,none⟩=some (.bool x.on)/\I64 x.x/\I64 x.y:=by obtain⟨b,o,x,cs,e,hb,hx,hr,-,hc⟩:=h.get hk;obtain⟨rfl,r0,r1⟩:=hr;exact⟨b,o,x,e,hb,hx,hc 0 _ rfl,hc 1 _ rfl,hc 2 _ rfl,r0,r1⟩
def afg:Rel Part:=fun _ _ cs x=>cs=[.int .i64 x.aeT,.int .i64 x.x,.int .i64 x.y]/\I64 x.aeT/\I64 x.x/\I64 x.y
theorem afg.ok:afg.Ok:=⟨fun h _=>h,fun h _=>h⟩
theorem Sl.part {w:World}{S:Bs}{A:Option Addr}{xs:List Part}(h:Sl afg 3 w S A xs){k:Nat}(hk:k<xs.length):∃b o x,A=some ⟨b,o,none⟩/\S b/\Hid (xs[k]? =some x)/\w.cell? ⟨b,o+k*3,none⟩=some (.int .i64 x.aeT)/\w.cell? ⟨b,o+k*3+1,none⟩=some (.int .i64 x.x)/\w.cell? ⟨b,o+k*3+2,none⟩=some (.int .i64 x.y)/\I64 x.aeT/\I64 x.x/\I64 x.y:=by obtain⟨b,o,x,cs,e,hb,hx,hr,-,hc⟩:=h.get hk;obtain⟨rfl,r0,r1,r2⟩:=hr;exact⟨b,o,x,e,hb,hx,hc 0 _ rfl,hc 1 _ rfl,hc 2 _ rfl,r0,r1,r2⟩
def ae6:Rel ae5:=fun _ _ cs x=>cs=[.int .i64 x.kind,.int .i64 x.cls,.int .i64 x.x,.int .i64 x.y]/\I64 x.kind/\I64 x.cls/\I64 x.x/\I64 x.y
theorem ae6.ok:ae6.Ok:=⟨fun h _=>h,fun h _=>h⟩
theorem Sl.anchor {w:World}{S:Bs}{A:Option Addr}{xs:List ae5}(h:Sl ae6 4 w S A xs){k:Nat}(hk:k<xs.length):∃b o x,A=some ⟨b,o,none⟩/\S b/\Hid (xs[k]? =some x)/\w.cell? ⟨b,o+k*4,none⟩=some (.int .i64 x.kind)/\w.cell? ⟨b,o+k*4+1,none⟩=some (.int .i64 x.cls)/\w.cell? ⟨b,o+k*4+2,none⟩=some (.int .i64 x.x)/\w.cell? ⟨b,o+k*4+3,none⟩=some (.int .i64 x.y)/\I64 x.kind/\I64 x.cls/\I64 x.x/\I64 x.y:=by obtain⟨b,o,x,cs,e,hb,hx,hr,-,hc⟩:=h.get hk;obtain⟨rfl,r0,r1,r2,r3⟩:=hr;exact⟨b,o,x,e,hb,hx,hc 0 _ rfl,hc 1 _ rfl,hc 2 _ rfl,hc 3 _ rfl,r0,r1,r2,r3⟩
def afc:Rel Delta:=fun _ _ cs x=>cs=[.int .i64 x.region,.int .i64 x.point,.int .i64 x.x,.int .i64 x.y]/\I64 x.region/\I64 x.point/\I64 x.x/\I64 x.y
theorem afc.ok:afc.Ok:=⟨fun h _=>h,fun h _=>h⟩
theorem Sl.delta {w:World}{S:Bs}{A:Option Addr}{xs:List Delta}(h:Sl afc 4 w S A xs){k:Nat}(hk:k<xs.length):∃b o x,A=some ⟨b,o,none⟩/\S b/\Hid (xs[k]? =some x)/\w.cell? ⟨b,o+k*4,none⟩=some (.int .i64 x.region)/\w.cell? ⟨b,o+k*4+1,none⟩=some (.int .i64 x.point)/\w.cell? ⟨b,o+k*4+2,none⟩=some (.int .i64 x.x)/\w.cell? ⟨b,o+k*4+3,none⟩=some (.int .i64 x.y)/\I64 x.region/\I64 x.point/\I64 x.x/\I64 x.y:=by obtain⟨b,o,x,cs,e,hb,hx,hr,-,hc⟩:=h.get hk;obtain⟨rfl,r0,r1,r2,r3⟩:=hr;exact⟨b,o,x,e,hb,hx,hc 0 _ rfl,hc 1 _ rfl,hc 2 _ rfl,hc 3 _ rfl,r0,r1,r2,r3⟩
def aeU:Rel aeS:=fun w S cs x=>∃A3 c3 A4 c4 A5 c5 A6 c6 A7 c7 A8 c8,cs=[.string ⟨x.name.toArray⟩,.int .i64 x.advance,.bool x.mark,.slice A3 x.points.length c3,.slice A4 x.ends.length c4,.slice A5 x.parts.length c5,.slice A6 x.anchors.length c6,.slice A7 x.deltas.length c7,.slice A8 x.hint.length c8]/\I64 x.advance/\Sl PtR 3 w S A3 x.points/\Sl aeQ 1 w S A4 x.ends/\Sl afg 3 w S A5 x.parts/\Sl ae6 4 w S A6 x.anchors/\Sl afc 4 w S A7 x.deltas/\Sl ae9 2 w S A8 x.hint
theorem aeU.ok:aeU.Ok:=⟨fun⟨A3,c3,A4,c4,A5,c5,A6,c6,A7,c7,A8,c8,e,r1,h3,h4,h5,h6,h7,h8⟩ hs=>⟨A3,c3,A4,c4,A5,c5,A6,c6,A7,c7,A8,c8,e,r1,h3.keep PtR.ok hs,h4.keep aeQ.ok hs,h5.keep afg.ok hs,h6.keep ae6.ok hs,h7.keep afc.ok hs,h8.keep ae9.ok hs⟩,fun⟨A3,c3,A4,c4,A5,c5,A6,c6,A7,c7,A8,c8,e,r1,h3,h4,h5,h6,h7,h8⟩ hs=>⟨A3,c3,A4,c4,A5,c5,A6,c6,A7,c7,A8,c8,e,r1,h3.mono PtR.ok hs,h4.mono aeQ.ok hs,h5.mono afg.ok hs,h6.mono ae6.ok hs,h7.mono afc.ok hs,h8.mono ae9.ok hs⟩⟩
theorem Sl.aeT {w:World}{S:Bs}{A:Option Addr}{xs:List aeS}(h:Sl aeU 9 w S A xs){k:Nat}(hk:k<xs.length):∃b o x A3 c3 A4 c4 A5 c5 A6 c6 A7 c7 A8 c8,A=some ⟨b,o,none⟩/\S b/\Hid (xs[k]? =some x)/\w.cell? ⟨b,o+k*9,none⟩=some (.string ⟨x.name.toArray⟩)/\w.cell? ⟨b,o+k*9+1,none⟩=some (.int .i64 x.advance)/\w.cell? ⟨b,o+k*9+2,none⟩=some (.bool x.mark)/\w.cell? ⟨b,o+k*9+3,none⟩=some (.slice A3 x.points.length c3)/\w.cell? ⟨b,o+k*9+4,none⟩=some (.slice A4 x.ends.length c4)/\w.cell? ⟨b,o+k*9+5,none⟩=some (.slice A5 x.parts.length c5)/\w.cell? ⟨b,o+k*9+6,none⟩=some (.slice A6 x.anchors.length c6)/\w.cell? ⟨b,o+k*9+7,none⟩=some (.slice A7 x.deltas.length c7)/\w.cell? ⟨b,o+k*9+8,none⟩=some (.slice A8 x.hint.length c8)/\I64 x.advance/\Sl PtR 3 w S A3 x.points/\Sl aeQ 1 w S A4 x.ends/\Sl afg 3 w S A5 x.parts/\Sl ae6 4 w S A6 x.anchors/\Sl afc 4 w S A7 x.deltas/\Sl ae9 2 w S A8 x.hint:=by obtain⟨b,o,x,cs,e,hb,hx,hr,-,hc⟩:=h.get hk;obtain⟨A3,c3,A4,c4,A5,c5,A6,c6,A7,c7,A8,c8,rfl,r1,h3,h4,h5,h6,h7,h8⟩:=hr;exact⟨b,o,x,A3,c3,A4,c4,A5,c5,A6,c6,A7,c7,A8,c8,e,hb,hx,hc 0 _ rfl,hc 1 _ rfl,hc 2 _ rfl,hc 3 _ rfl,hc 4 _ rfl,hc 5 _ rfl,hc 6 _ rfl,hc 7 _ rfl,hc 8 _ rfl,r1,h3,h4,h5,h6,h7,h8⟩
def afb:Rel Chr:=fun _ _ cs x=>cs=[.int .i64 x.rune,.int .i64 x.aeT]/\I64 x.rune/\I64 x.aeT
theorem afb.ok:afb.Ok:=⟨fun h _=>h,fun h _=>h⟩
theorem Sl.chr {w:World}{S:Bs}{A:Option Addr}{xs:List Chr}(h:Sl afb 2 w S A xs){k:Nat}(hk:k<xs.length):∃b o x,A=some ⟨b,o,none⟩/\S b/\Hid (xs[k]? =some x)/\w.cell? ⟨b,o+k*2,none⟩=some (.int .i64 x.rune)/\w.cell? ⟨b,o+k*2+1,none⟩=some (.int .i64 x.aeT)/\I64 x.rune/\I64 x.aeT:=by obtain⟨b,o,x,cs,e,hb,hx,hr,-,hc⟩:=h.get hk;obtain⟨rfl,r0,r1⟩:=hr;exact⟨b,o,x,e,hb,hx,hc 0 _ rfl,hc 1 _ rfl,r0,r1⟩
def aff:Rel Call:=fun _ _ cs x=>cs=[.int .i64 x.at',.int .i64 x.lookup]/\I64 x.at'/\I64 x.lookup
theorem aff.ok:aff.Ok:=⟨fun h _=>h,fun h _=>h⟩
theorem Sl.call {w:World}{S:Bs}{A:Option Addr}{xs:List Call}(h:Sl aff 2 w S A xs){k:Nat}(hk:k<xs.length):∃b o x,A=some ⟨b,o,none⟩/\S b/\Hid (xs[k]? =some x)/\w.cell? ⟨b,o+k*2,none⟩=some (.int .i64 x.at')/\w.cell? ⟨b,o+k*2+1,none⟩=some (.int .i64 x.lookup)/\I64 x.at'/\I64 x.lookup:=by obtain⟨b,o,x,cs,e,hb,hx,hr,-,hc⟩:=h.get hk;obtain⟨rfl,r0,r1⟩:=hr;exact⟨b,o,x,e,hb,hx,hc 0 _ rfl,hc 1 _ rfl,r0,r1⟩
def ae8:Rel ae4:=fun w S cs x=>∃A0 c0 A1 c1 A2 c2 A3 c3 A4 c4,cs=[.slice A0 x.back.length c0,.slice A1 x.in'.length c1,.slice A2 x.ahead.length c2,.slice A3 x.out.length c3,.slice A4 x.calls.length c4,.int .i64 x.x]/\I64 x.x/\Sl aeR 1 w S A0 x.back/\Sl aeR 1 w S A1 x.in'/\Sl aeR 1 w S A2 x.ahead/\Sl aeQ 1 w S A3 x.out/\Sl aff 2 w S A4 x.calls
theorem ae8.ok:ae8.Ok:=⟨fun⟨A0,c0,A1,c1,A2,c2,A3,c3,A4,c4,e,r5,h0,h1,h2,h3,h4⟩ hs=>⟨A0,c0,A1,c1,A2,c2,A3,c3,A4,c4,e,r5,h0.keep aeR.ok hs,h1.keep aeR.ok hs,h2.keep aeR.ok hs,h3.keep aeQ.ok hs,h4.keep aff.ok hs⟩,fun⟨A0,c0,A1,c1,A2,c2,A3,c3,A4,c4,e,r5,h0,h1,h2,h3,h4⟩ hs=>⟨A0,c0,A1,c1,A2,c2,A3,c3,A4,c4,e,r5,h0.mono aeR.ok hs,h1.mono aeR.ok hs,h2.mono aeR.ok hs,h3.mono aeQ.ok hs,h4.mono aff.ok hs⟩⟩
theorem Sl.rule {w:World}{S:Bs}{A:Option Addr}{xs:List ae4}(h:Sl ae8 6 w S A xs){k:Nat}(hk:k<xs.length):∃b o x A0 c0 A1 c1 A2 c2 A3 c3 A4 c4,A=some ⟨b,o,none⟩/\S b/\Hid (xs[k]? =some x)/\w.cell? ⟨b,o+k*6,none⟩=some (.slice A0 x.back.length c0)/\w.cell? ⟨b,o+k*6+1,none⟩=some (.slice A1 x.in'.length c1)/\w.cell? ⟨b,o+k*6+2,none⟩=some (.slice A2 x.ahead.length c2)/\w.cell? ⟨b,o+k*6+3,none⟩=some (.slice A3 x.out.length c3)/\w.cell? ⟨b,o+k*6+4,none⟩=some (.slice A4 x.calls.length c4)/\w.cell? ⟨b,o+k*6+5,none⟩=some (.int .i64 x.x)/\I64 x.x/\Sl aeR 1 w S A0 x.back/\Sl aeR 1 w S A1 x.in'/\Sl aeR 1 w S A2 x.ahead/\Sl aeQ 1 w S A3 x.out/\Sl aff 2 w S A4 x.calls:=by obtain⟨b,o,x,cs,e,hb,hx,hr,-,hc⟩:=h.get hk;obtain⟨A0,c0,A1,c1,A2,c2,A3,c3,A4,c4,rfl,r5,h0,h1,h2,h3,h4⟩:=hr;exact⟨b,o,x,A0,c0,A1,c1,A2,c2,A3,c3,A4,c4,e,hb,hx,hc 0 _ rfl,hc 1 _ rfl,hc 2 _ rfl,hc 3 _ rfl,hc 4 _ rfl,hc 5 _ rfl,r5,h0,h1,h2,h3,h4⟩
def aeV:Rel Lookup:=fun w S cs x=>∃A2 c2,cs=[.int .i64 x.kind,.bool x.afh,.slice A2 x.rules.length c2]/\I64 x.kind/\Sl ae8 6 w S A2 x.rules
theorem aeV.ok:aeV.Ok:=⟨fun⟨A2,c2,e,r0,h2⟩ hs=>⟨A2,c2,e,r0,h2.keep ae8.ok hs⟩,fun⟨A2,c2,e,r0,h2⟩ hs=>⟨A2,c2,e,r0,h2.mono ae8.ok hs⟩⟩
theorem Sl.lookup {w:World}{S:Bs}{A:Option Addr}{xs:List Lookup}(h:Sl aeV 3 w S A xs){k:Nat}(hk:k<xs.length):∃b o x A2 c2,A=some ⟨b,o,none⟩/\S b/\Hid (xs[k]? =some x)/\w.cell? ⟨b,o+k*3,none⟩=some (.int .i64 x.kind)/\w.cell? ⟨b,o+k*3+1,none⟩=some (.bool x.afh)/\w.cell? ⟨b,o+k*3+2,none⟩=some (.slice A2 x.rules.length c2)/\I64 x.kind/\Sl ae8 6 w S A2 x.rules:=by obtain⟨b,o,x,cs,e,hb,hx,hr,-,hc⟩:=h.get hk;obtain⟨A2,c2,rfl,r0,h2⟩:=hr;exact⟨b,o,x,A2,c2,e,hb,hx,hc 0 _ rfl,hc 1 _ rfl,hc 2 _ rfl,r0,h2⟩
def aeW:Rel afd:=fun w S cs x=>∃A1 c1,cs=[.string ⟨x.name.toArray⟩,.slice A1 x.aeO.length c1]/\Sl aeQ 1 w S A1 x.aeO
theorem aeW.ok:aeW.Ok:=⟨fun⟨A1,c1,e,h1⟩ hs=>⟨A1,c1,e,h1.keep aeQ.ok hs⟩,fun⟨A1,c1,e,h1⟩ hs=>⟨A1,c1,e,h1.mono aeQ.ok hs⟩⟩
theorem Sl.afH {w:World}{S:Bs}{A:Option Addr}{xs:List afd}(h:Sl aeW 2 w S A xs){k:Nat}(hk:k<xs.length):∃b o x A1 c1,A=some ⟨b,o,none⟩/\S b/\Hid (xs[k]? =some x)/\w.cell? ⟨b,o+k*2,none⟩=some (.string ⟨x.name.toArray⟩)/\w.cell? ⟨b,o+k*2+1,none⟩=some (.slice A1 x.aeO.length c1)/\Sl aeQ 1 w S A1 x.aeO:=by obtain⟨b,o,x,cs,e,hb,hx,hr,-,hc⟩:=h.get hk;obtain⟨A1,c1,rfl,h1⟩:=hr;exact⟨b,o,x,A1,c1,e,hb,hx,hc 0 _ rfl,hc 1 _ rfl,h1⟩
def ae2:Rel afp:=fun _ _ cs x=>cs=[.string ⟨x.name.toArray⟩,.int .i64 x.min',.int .i64 x.afk,.int .i64 x.max']/\I64 x.min'/\I64 x.afk/\I64 x.max'
theorem ae2.ok:ae2.Ok:=⟨fun h _=>h,fun h _=>h⟩
theorem Sl.afE {w:World}{S:Bs}{A:Option Addr}{xs:List afp}(h:Sl ae2 4 w S A xs){k:Nat}(hk:k<xs.length):∃b o x,A=some ⟨b,o,none⟩/\S b/\Hid (xs[k]? =some x)/\w.cell? ⟨b,o+k*4,none⟩=some (.string ⟨x.name.toArray⟩)/\w.cell? ⟨b,o+k*4+1,none⟩=some (.int .i64 x.min')/\w.cell? ⟨b,o+k*4+2,none⟩=some (.int .i64 x.afk)/\w.cell? ⟨b,o+k*4+3,none⟩=some (.int .i64 x.max')/\I64 x.min'/\I64 x.afk/\I64 x.max':=by obtain⟨b,o,x,cs,e,hb,hx,hr,-,hc⟩:=h.get hk;obtain⟨rfl,r1,r2,r3⟩:=hr;exact⟨b,o,x,e,hb,hx,hc 0 _ rfl,hc 1 _ rfl,hc 2 _ rfl,hc 3 _ rfl,r1,r2,r3⟩
def afu:Rel afm:=fun _ _ cs x=>cs=[.int .i64 x.start,.int .i64 x.peak,.int .i64 x.stop]/\I64 x.start/\I64 x.peak/\I64 x.stop
theorem afu.ok:afu.Ok:=⟨fun h _=>h,fun h _=>h⟩
theorem Sl.agk {w:World}{S:Bs}{A:Option Addr}{xs:List afm}(h:Sl afu 3 w S A xs){k:Nat}(hk:k<xs.length):∃b o x,A=some ⟨b,o,none⟩/\S b/\Hid (xs[k]? =some x)/\w.cell? ⟨b,o+k*3,none⟩=some (.int .i64 x.start)/\w.cell? ⟨b,o+k*3+1,none⟩=some (.int .i64 x.peak)/\w.cell? ⟨b,o+k*3+2,none⟩=some (.int .i64 x.stop)/\I64 x.start/\I64 x.peak/\I64 x.stop:=by obtain⟨b,o,x,cs,e,hb,hx,hr,-,hc⟩:=h.get hk;obtain⟨rfl,r0,r1,r2⟩:=hr;exact⟨b,o,x,e,hb,hx,hc 0 _ rfl,hc 1 _ rfl,hc 2 _ rfl,r0,r1,r2⟩
def aeY:Rel Region:=fun w S cs x=>∃A0 c0,cs=[.slice A0 x.ae0.length c0]/\Sl afu 3 w S A0 x.ae0
theorem aeY.ok:aeY.Ok:=⟨fun⟨A0,c0,e,h0⟩ hs=>⟨A0,c0,e,h0.keep afu.ok hs⟩,fun⟨A0,c0,e,h0⟩ hs=>⟨A0,c0,e,h0.mono afu.ok hs⟩⟩
theorem Sl.region {w:World}{S:Bs}{A:Option Addr}{xs:List Region}(h:Sl aeY 1 w S A xs){k:Nat}(hk:k<xs.length):∃b o x A0 c0,A=some ⟨b,o,none⟩/\S b/\Hid (xs[k]? =some x)/\w.cell? ⟨b,o+k,none⟩=some (.slice A0 x.ae0.length c0)/\Sl afu 3 w S A0 x.ae0:=by obtain⟨b,o,x,cs,e,hb,hx,hr,-,hc⟩:=h.get hk;obtain⟨A0,c0,rfl,h0⟩:=hr;simp only[Nat.mul_one] at hc;exact⟨b,o,x,A0,c0,e,hb,hx,hc 0 _ rfl,h0⟩
def afe:Rel Fnt:=fun w S cs x=>∃A1 c1 A2 c2 A3 c3 A4 c4 A5 c5 A6 c6 A7 c7 A8 c8,cs=[.int .i64 x.unit,.slice A1 x.aeN.length c1,.slice A2 x.chars.length c2,.slice A3 x.aeO.length c3,.slice A4 x.features.length c4,.slice A5 x.aeP.length c5,.slice A6 x.regions.length c6,.slice A7 x.funcs.length c7,.slice A8 x.cvt.length c8]/\I64 x.unit/\Sl aeU 9 w S A1 x.aeN/\Sl afb 2 w S A2 x.chars/\Sl aeV 3 w S A3 x.aeO/\Sl aeW 2 w S A4 x.features/\Sl ae2 4 w S A5 x.aeP/\Sl aeY 1 w S A6 x.regions/\Sl ae1 1 w S A7 x.funcs/\Sl aeQ 1 w S A8 x.cvt
theorem afe.ok:afe.Ok:=⟨fun⟨A1,c1,A2,c2,A3,c3,A4,c4,A5,c5,A6,c6,A7,c7,A8,c8,e,r0,h1,h2,h3,h4,h5,h6,h7,h8⟩ hs=>⟨A1,c1,A2,c2,A3,c3,A4,c4,A5,c5,A6,c6,A7,c7,A8,c8,e,r0,h1.keep aeU.ok hs,h2.keep afb.ok hs,h3.keep aeV.ok hs,h4.keep aeW.ok hs,h5.keep ae2.ok hs,h6.keep aeY.ok hs,h7.keep ae1.ok hs,h8.keep aeQ.ok hs⟩,fun⟨A1,c1,A2,c2,A3,c3,A4,c4,A5,c5,A6,c6,A7,c7,A8,c8,e,r0,h1,h2,h3,h4,h5,h6,h7,h8⟩ hs=>⟨A1,c1,A2,c2,A3,c3,A4,c4,A5,c5,A6,c6,A7,c7,A8,c8,e,r0,h1.mono aeU.ok hs,h2.mono afb.ok hs,h3.mono aeV.ok hs,h4.mono aeW.ok hs,h5.mono ae2.ok hs,h6.mono aeY.ok hs,h7.mono ae1.ok hs,h8.mono aeQ.ok hs⟩⟩
theorem Sl.fnt {w:World}{S:Bs}{A:Option Addr}{xs:List Fnt}(h:Sl afe 9 w S A xs){k:Nat}(hk:k<xs.length):∃b o x A1 c1 A2 c2 A3 c3 A4 c4 A5 c5 A6 c6 A7 c7 A8 c8,A=some ⟨b,o,none⟩/\S b/\Hid (xs[k]? =some x)/\w.cell? ⟨b,o+k*9,none⟩=some (.int .i64 x.unit)/\w.cell? ⟨b,o+k*9+1,none⟩=some (.slice A1 x.aeN.length c1)/\w.cell? ⟨b,o+k*9+2,none⟩=some (.slice A2 x.chars.length c2)/\w.cell? ⟨b,o+k*9+3,none⟩=some (.slice A3 x.aeO.length c3)/\w.cell? ⟨b,o+k*9+4,none⟩=some (.slice A4 x.features.length c4)/\w.cell? ⟨b,o+k*9+5,none⟩=some (.slice A5 x.aeP.length c5)/\w.cell? ⟨b,o+k*9+6,none⟩=some (.slice A6 x.regions.length c6)/\w.cell? ⟨b,o+k*9+7,none⟩=some (.slice A7 x.funcs.length c7)/\w.cell? ⟨b,o+k*9+8,none⟩=some (.slice A8 x.cvt.length c8)/\I64 x.unit/\Sl aeU 9 w S A1 x.aeN/\Sl afb 2 w S A2 x.chars/\Sl aeV 3 w S A3 x.aeO/\Sl aeW 2 w S A4 x.features/\Sl ae2 4 w S A5 x.aeP/\Sl aeY 1 w S A6 x.regions/\Sl ae1 1 w S A7 x.funcs/\Sl aeQ 1 w S A8 x.cvt:=by obtain⟨b,o,x,cs,e,hb,hx,hr,-,hc⟩:=h.get hk;obtain⟨A1,c1,A2,c2,A3,c3,A4,c4,A5,c5,A6,c6,A7,c7,A8,c8,rfl,r0,h1,h2,h3,h4,h5,h6,h7,h8⟩:=hr;exact⟨b,o,x,A1,c1,A2,c2,A3,c3,A4,c4,A5,c5,A6,c6,A7,c7,A8,c8,e,hb,hx,hc 0 _ rfl,hc 1 _ rfl,hc 2 _ rfl,hc 3 _ rfl,hc 4 _ rfl,hc 5 _ rfl,hc 6 _ rfl,hc 7 _ rfl,hc 8 _ rfl,r0,h1,h2,h3,h4,h5,h6,h7,h8⟩
end
section
open Go.RowKit Go.MapKept
structure Emb (κ :Type) where
 emb: κ ->Value
 d:TypeDesc
 inj:∀ {a b},emb a=emb b->a=b
 key:∀a,IsKey d (emb a)
def afl {κ :Type}(E:Emb κ)(w:World)(b:Nat)(f: κ ->Option Value):Prop:=
 ∃es clock,∃kv:List (κ ×Value),w.heap[b]? =some (.map es clock)/\es.toList.map (fun e=>(e.key,e.val))=kv.map (fun x: κ ×Value=>(E.emb x.1,x.2))/\
  ∀k v,f k=some v ↔ (k,v)∈kv
section
variable {κ :Type} {E:Emb κ} {w w':World} {b:Nat} {f: κ ->Option Value}
theorem afl.lt (h:afl E w b f):b<w.heap.size:=by obtain⟨es,clock,kv,h1,_⟩:=h;exact(agI.1 h1).1
theorem afl.keep (h:afl E w b f)(hk:w'.heap[b]? =w.heap[b]?):afl E w' b f:=by obtain⟨es,clock,kv,h1,h2⟩:=h;exact⟨es,clock,kv,hk.trans h1,h2⟩
theorem afl.below (h:afl E w b f)(hb:Below w.heap.size w w'):afl E w' b f:=h.keep (hb.block b h.lt)
theorem afl.grown (h:afl E w b f){row:Option Nat}(hg:w.grownBy w' row)(hne:some b≠row):afl E w' b f:=h.keep (hg.block b h.lt hne)
theorem afl.drewN (h:afl E w b f)(n:Nat):afl E (w.drewN n) b f:=h
theorem afl.drew (h:afl E w b f):afl E w.drew b f:=h
theorem afl.new (E:Emb κ)(w:World):afl E (w.alloc (.map #[] 0)) w.heap.size (fun _=>none):=⟨#[],0,[],heap_alloc_new w _,rfl,by simp⟩
theorem afl.congr (h:afl E w b f){g: κ ->Option Value}(hg:∀k,g k=f k):afl E w b g:=by obtain⟨es,clock,kv,h1,h2,h3⟩:=h;exact⟨es,clock,kv,h1,h2,fun k v=>by rw[hg];exact h3 k v⟩
theorem afl.find {P:Program}{K:TypeId}(h:afl E w b f)(hK:P.underlying K=some E.d)(k: κ):
  ∃es clock,w.heap[b]? =some (.map es clock)/\((f k=none/\(Instr.findKey K (E.emb k) es.toList).run P w= .ok none w)\/∃v j,f k=some v/\(Instr.findKey K (E.emb k) es.toList).run P w= .ok (some (j,v)) w):=by
 obtain⟨es,clock,kv,h1,h2,h3⟩:=h;refine⟨es,clock,h1,?_⟩;have hks:∀x∈es.toList,IsKey E.d x.key:=by
  intro x hx;have:(x.key,x.val)∈es.toList.map (fun e=>(e.key,e.val)):=ag7.2 ⟨x,hx,rfl⟩;rw[h2,ag7] at this;obtain⟨y,_,hy⟩:=this;injection hy with hy1 hy2
  rw[<-hy1];exact E.key _
 rcases findNow_spec (d:=E.d) (E.key k) es.toList 0 hks with⟨g1,g2⟩|⟨j,e,g1,g2,g3⟩
 ·refine .inl ⟨?_,run_findKey hK g1⟩;cases hf:f k with
  |none=>rfl
  |some v=>
   have hm:=(h3 k v).1 hf;have:(E.emb k,v)∈kv.map (fun x: κ ×Value=>(E.emb x.1,x.2)):=ag7.2 ⟨(k,v),hm,rfl⟩;rw[<-h2,ag7] at this;obtain⟨x,hx,hy⟩:=this;injection hy with hy1 hy2
   exact absurd hy1 (g2 x hx)
 refine .inr ⟨e.val,0+j,?_,run_findKey hK g1⟩;have he:e∈es.toList:=agM g2;have:(e.key,e.val)∈es.toList.map (fun e=>(e.key,e.val)):=ag7.2 ⟨e,he,rfl⟩;rw[h2,ag7] at this;obtain⟨y,hy,hy2⟩:=this;injection hy2 with hy3 hy4
 have:y.1=k:=E.inj (hy3.trans g3);rw[h3];rw[<-this,<-hy4];exact hy
theorem afl.put [DecidableEq κ]{P:Program}{T K El:TypeId}(h:afl E w b f)(hT:P.underlying T=some (.map K El))(hK:P.underlying K=some E.d)(k: κ)(v:Value)(hn:f k=none):
  ∃w',(Instr.mapUpdate T (.map (some b)) (E.emb k) v).run P w= .ok () w'/\afl E w' b (fun t=>if t=k then some v else f t)/\w.grownBy w' (some b):=by
 obtain⟨es0,acr,g1,g2⟩:=h.find hK k;obtain⟨es,clock,kv,h1,h2,h3⟩:=h;rw[h1] at g1;injection g1 with g1
 injection g1 with g1 g1'
 subst g1 g1';rcases g2 with⟨_,g3⟩|⟨v',j,g3,_⟩
 ·refine⟨{w with heap:=w.heap.setIfInBounds b (.map (es.push ⟨E.emb k,v,clock⟩) (clock+1))},?_,⟨es.push ⟨E.emb k,v,clock⟩,clock+1,kv++[(k,v)],(heap_set h1).1,?_,?_⟩,⟨rfl,rfl,rfl,by simp,fun i hi hne=>(heap_set h1).2 i (fun e=>hne (by rw[e]))⟩⟩
  ·simp[Instr.mapUpdate,run_underlying hT,MapKept.run_getObj_map h1,MapKept.run_checkKey hK (E.key k),g3,MapKept.run_setObj_map _ h1,Result.andThen]
  ·simp[h2]
  intro t u;rw[agJ,agF,ahl];show((if t=k then some v else f t)=some u) ↔ _;by_cases ht:t=k
  ·subst ht;rw[if_pos rfl];constructor
   ·intro e;injection e with e;exact .inr ⟨rfl,e.symm⟩
   rintro(e|⟨_,rfl⟩)
   ·rw[(h3 t u).2 e] at hn;cases hn
   rfl
  rw[if_neg ht,h3];simp[ht]
 rw[hn] at g3;cases g3
end
end
section
structure PS where
 f:Fnt
 unit:Bool
 cls:List (B×List Int)
def f0:Fnt:=⟨0,[],[],[],[],[],[],[],[]⟩
def ps0:PS:=⟨f0,false,[]⟩
abbrev Gl:=List (B×Nat)
def gY:Nat->List (List B)->Gl
 |_,[]=>[]
 |n,l::ls=>
  match l with
  |w::r=>if w=iL then(match r with|v::_=>if nameB v then [(v,n)] else []|[]=>[])++gY (n+1) ls else gY n ls
  |[]=>gY n ls
theorem LM (n:Nat)(L:List (List B)):gY n ([]::L)=gY n L:=rfl
def Qb (n:Nat)(r:List B):Gl:=match r with|v::_=>if nameB v then [(v,n)] else []|[]=>[]
theorem zF (n:Nat)(w:B)(r:List B)(L:List (List B)):gY n ((w::r)::L)=if w=iL then Qb n r++gY (n+1) L else gY n L:=by rw[gY.eq_def];cases r<;>rfl
def jY (e:Int)(t:B):Int:=if e=0/\FK t=false then 21 else e
def sK (e:Int)(t:B):Int:=if e=0/\nameB t=false then 23 else e
def J4 (gl:Gl)(e:Int)(t:B):Int:=if e=0/\(gl.lookup t).isNone=true then 23 else e
def Bf (gl:Gl)(t:B):Int:=((gl.lookup t).getD 0:Nat)
def pz (e:Int)(l:List B):Int:=l.foldl jY e
def KN (gl:Gl)(e:Int)(l:List B):Int:=l.foldl (J4 gl) e
def qW (c:UInt8)(t:B):B:=t.takeWhile (· !=c)
def tK (c:UInt8)(t:B):B:=(t.dropWhile (· !=c)).drop 1
def Qg (t:B):Int:=if t∈opNames then(opNames.findIdx (· ==t):Int)+1 else 0
def sJ (l:List B)(t:B):Int:=if t∈l then(l.findIdx (· ==t):Int)+1 else 0
def Kz (e:Int)(t:B):Int:=if t.contains 58 then jY (if e=0/\Qg (qW 58 t)=0 then 23 else e) (tK 58 t) else if e=0/\Qg (qW 58 t)=0 then 23 else e
def JZ (t:B):Ins:=⟨Qg (qW 58 t),if t.contains 58 then fO (tK 58 t) else 0⟩
def FD (l:List B):Bool:=l.all (fun t=>t.count 58<=1)
def CY (t:B):Bool:=t.count 44==1 && (!t.contains 42||t.idxOf 42==t.length - 1)
def qw (t:B):B:=if t.getLast? =some 42 then t.dropLast else t
def OX (e:Int)(t:B):Int:=jY (jY e (qW 44 (qw t))) (tK 44 (qw t))
def NW (t:B):Pt:=⟨fO (qW 44 (qw t)),fO (tK 44 (qw t)),t.getLast? !=some 42⟩
def C9 (l:List B):Bool:=l.all (fun t=>t.count 58==1)
def FC (e:Int)(t:B):Int:=jY (jY e (qW 58 t)) (tK 58 t)
def Fq (t:B):Call:=⟨fO (qW 58 t),fO (tK 58 t)⟩
def fK:Bool->List B->List (List B)->List B->Option (List (List B))
 |op,_,told,[]=>if op then none else some told
 |op,row,told,w::r=>
  if w=[91] then(if op then none else fK true [] told r)
  else if w=[93] then(if op then fK false [] (told++[row]) r else none)
  else if op then fK true (row++[w]) told r
  else fK false [] (told++[[w]]) r
def uM (ws:List B):Option (List (List B)):=fK false [] [] ws
def IV (gl:Gl)(cls:List (B×List Int))(t:B):Except Int (List Int):=
 match t with
 |64::r=>match cls.lookup r with|some c=> .ok c|none=> .error 23
 |_=>match gl.lookup t with|some n=> .ok [(n:Int)]|none=> .error 23
def yE (gl:Gl)(cls:List (B×List Int)):List Int->List B->Except Int (List Int)
 |acc,[]=> .ok acc
 |acc,t::r=>match IV gl cls t with
  | .error e=> .error e
  | .ok c=>if 1000<(acc++c).length then .error 2 else yE gl cls (acc++c) r
def uk (gl:Gl)(cls:List (B×List Int)):List (List B)->Except Int (List (List Int))
 |[]=> .ok []
 |l::r=>match yE gl cls [] l with
  | .error e=> .error e
  | .ok x=>match uk gl cls r with| .error e=> .error e| .ok xs=> .ok (x::xs)
def Gq (n:Int):List Int->List Int
 |[]=>[n]
 |x::r=>if n<x then n::x::r else if n=x then x::r else x::Gq n r
def setOf (l:List Int):List Int:=l.foldr Gq []
abbrev Ans:=Except Int PS
def fin (e:Int)(s:PS):Ans:=if e=0 then .ok s else .error e
def Lp (s:PS)(l:List B):Ans:=
 match l with
 |[t]=>if jY 0 t≠0 then .error (jY 0 t) else if s.unit then .error 24 else .ok {s with unit:=true,f:= {s.f with unit:=fO t}}
 |_=> .error 22
def LW (s:PS)(l:List B):Ans:=
 match l with
 |[n,a,b,c]=>fin (jY (jY (jY (sK 0 n) a) b) c) {s with f:= {s.f with aeP:=s.f.aeP++[⟨n,fO a,fO b,fO c⟩]}}
 |_=> .error 22
def yx:List Int->List afm
 |a::b::c::r=>⟨a,b,c⟩::yx r
 |_=>[]
def CU (s:PS)(l:List B):Ans:=if l.length % 3≠0 then .error 22 else fin (pz 0 l) {s with f:= {s.f with regions:=s.f.regions++[⟨yx (l.map fO)⟩]}}
def Tj (s:PS)(l:List B):Ans:=fin (pz 0 l) {s with f:= {s.f with cvt:=s.f.cvt++l.map fO}}
def KZ (s:PS)(l:List B):Ans:=if FD l=false then .error 22 else fin (l.foldl Kz 0) {s with f:= {s.f with funcs:=s.f.funcs++[l.map JZ]}}
def WY (gl:Gl)(s:PS)(l:List B):Ans:=
 match l with
 |[]=> .error 22
 |n::r=>match uM r with
  |some [row]=>if sK 0 n≠0 then .error (sK 0 n) else match yE gl s.cls [] row with
   | .error e=> .error e
   | .ok g=>if(s.cls.lookup n).isSome then .error 24 else .ok {s with cls:=s.cls++[(n,g)]}
  |_=> .error 22
def GY (gl:Gl)(s:PS)(l:List B):Ans:=
 match l with
 |n::a::r=>if r=[]\/r=[sG] then
   (if jY (sK 0 n) a≠0 then .error (jY (sK 0 n) a) else if Bf gl n≠s.f.aeN.length then .error 24
   else .ok {s with f:= {s.f with aeN:=s.f.aeN++[⟨n,fO a,!r.isEmpty,[],[],[],[],[],[]⟩]}})
  else .error 22
 |_=> .error 22
def qQ (s:PS)(h:aeS->aeS):PS:= {s with f:= {s.f with aeN:=s.f.aeN.dropLast++(s.f.aeN.getLast?.map h).toList}}
def Ae (s:PS)(l:List B):Ans:=
 if s.f.aeN=[] then .error 22 else if l=[]\/l.all CY=false then .error 22
 else fin (l.foldl OX 0) (qQ s fun g=> {g with points:=g.points++l.map NW,ends:=g.ends++[((g.points.length+l.length:Nat):Int) - 1]})
def Ns (gl:Gl)(s:PS)(l:List B):Ans:=
 if s.f.aeN=[] then .error 22 else
 match l with
 |[n,x,y]=>fin (jY (jY (J4 gl 0 n) x) y) (qQ s fun g=> {g with parts:=g.parts++[⟨Bf gl n,fO x,fO y⟩]})
 |_=> .error 22
def Dc (s:PS)(l:List B):Ans:=
 if s.f.aeN=[] then .error 22 else
 match l with
 |[n,c,x,y]=>if sJ anchorNames n=0 then .error 22 else fin (pz 0 [c,x,y]) (qQ s fun g=> {g with anchors:=g.anchors++[⟨sJ anchorNames n,fO c,fO x,fO y⟩]})
 |_=> .error 22
def Hg (s:PS)(l:List B):Ans:=
 if s.f.aeN=[] then .error 22 else
 match l with
 |[r,p,x,y]=>fin (pz 0 [r,p,x,y]) (qQ s fun g=> {g with deltas:=g.deltas++[⟨fO r,fO p,fO x,fO y⟩]})
 |_=> .error 22
def LD (s:PS)(l:List B):Ans:=
 if s.f.aeN=[] then .error 22 else if FD l=false then .error 22
 else fin (l.foldl Kz 0) (qQ s fun g=> {g with hint:=g.hint++l.map JZ})
def ML (gl:Gl)(s:PS)(l:List B):Ans:=
 match l with
 |[c,n]=>fin (J4 gl (jY 0 c) n) {s with f:= {s.f with chars:=s.f.chars++[⟨fO c,Bf gl n⟩]}}
 |_=> .error 22
def zO (s:PS)(l:List B):Ans:=
 match l with
 |n::r=>fin (pz (sK 0 n) r) {s with f:= {s.f with features:=s.f.features++[⟨n,r.map fO⟩]}}
 |[]=> .error 22
def Dy (s:PS)(l:List B):Ans:=
 match l with
 |k::r=>if r=[]\/r=[lK] then(if sJ bF k=0 then .error 22 else .ok {s with f:= {s.f with aeO:=s.f.aeO++[⟨sJ bF k,!r.isEmpty,[]⟩]}}) else .error 22
 |[]=> .error 22
def kK:Nat->List B->List (List B)->List B->Option (List (List B))
 |n,cur,told,[]=>if n=3 then some (told++[cur]) else none
 |n,cur,told,w::r=>
  if w≠[47]/\w≠[62] then kK n (cur++[w]) told r
  else if(n<2/\w=[47])\/(n=2/\w=[62]) then kK (n+1) [] (told++[cur]) r else none
def AP (l:List B):Option (List (List B)):=kK 0 [] [] l
def nZ (kind:Int)(l:List B):Bool:=if kind=4 then C9 l else if kind=6 then l.length==1 else if kind=7\/kind=8 then l.length==0 else true
def uF (s:PS)(h:Lookup->Lookup):PS:= {s with f:= {s.f with aeO:=s.f.aeO.dropLast++(s.f.aeO.getLast?.map h).toList}}
def DD (written names:List Int):Except Int (List Int):=
 if ¬written.Nodup then .error 24 else if names.length≠written.length then .error 22
 else .ok ((setOf written).map (fun g=>names.getD (written.idxOf g) 0))
def Fv (gl:Gl)(s:PS)(l:List B):Ans:=
 match s.f.aeO.getLast? with
 |none=> .error 22
 |some lk=>match AP l with
  |some [p0,p1,p2,p3]=>match uM p0,uM p1,uM p2 with
   |some w0,some w1,some w2=>
    if(lk.kind=1\/lk.kind=5)/\w1.length≠1 then .error 22 else if nZ lk.kind p3=false then .error 22 else
    match uk gl s.cls w0 with
    | .error e=> .error e
    | .ok b=>match uk gl s.cls w1 with
     | .error e=> .error e
     | .ok i=>match uk gl s.cls w2 with
      | .error e=> .error e
      | .ok a=>
       let plain:=lk.kind=1\/lk.kind=2\/lk.kind=3\/lk.kind=5
       let e:=if plain then KN gl 0 p3 else if lk.kind=4 then p3.foldl FC 0 else if lk.kind=6 then pz 0 p3 else 0
       if e≠0 then .error e else
       let out:=if plain then p3.map (Bf gl) else []
       let r:ae4:=⟨b.map setOf,i.map setOf,a.map setOf,out,if lk.kind=4 then p3.map Fq else [],if lk.kind=6 then fO (p3.headD []) else 0⟩
       if lk.kind=1\/lk.kind=5 then(match DD (i.headD []) out with
        | .error e=> .error e
        | .ok o=> .ok (uF s fun lk=> {lk with rules:=lk.rules++[{r with out:=o}]}))
       else .ok (uF s fun lk=> {lk with rules:=lk.rules++[r]})
   |_,_,_=> .error 22
  |_=> .error 22
def stmt (gl:Gl)(s:PS)(l:List B):Ans:=
 match l with
 |[]=> .error 22
 |w::r=>
  if w=mG then Lp s r else if w=yD then LW s r else if w=lM then CU s r else if w=lY then Tj s r
  else if w=tH then KZ s r else if w=XF then WY gl s r else if w=iL then GY gl s r else if w=iG then Ae s r
  else if w=sU then Ns gl s r else if w=nD then Dc s r else if w=pR then Hg s r else if w=pJ then LD s r
  else if w=yC then ML gl s r else if w=iT then Dy s r else if w=dC then Fv gl s r else if w=lu then zO s r
  else .error 22
def stmts (gl:Gl):PS->List (Int×List B)->Except (Int×Int) PS
 |s,[]=> .ok s
 |s,(n,l)::r=>match stmt gl s l with| .error e=> .error (n,e)| .ok s'=>stmts gl s' r
def linesT (src:B):List (Int×List B):=(Qd src).map (fun l=>((l.head?.map (·.1)).getD 0,l.map (·.2.2)))
def Io (src:B):Except (Int×Int) Fnt:=(stmts (gY 0 ((linesT src).map (·.2))) ps0 (linesT src)).map (·.f)
end
section
open Go.RowKit
def strs (ws:List B):List Value:=ws.map fun s=> .string ⟨s.toArray⟩
theorem vF (a b:List B):strs (a++b)=strs a++strs b:=by simp[strs]
theorem IM (a:List B):(strs a).length=a.length:=by simp[strs]
theorem Az (ws:List B):∀u∈strs ws,u.oneCell'=true:=by intro u hu;simp only[strs,ag7] at hu;obtain⟨p,_,rfl⟩:=hu;rfl
theorem Ku (w:World)(S:Bs)(ws:List B):Fl afJ 1 w S (strs ws) ws:=
 ⟨by simp[strs],fun k x hx=>⟨[.string ⟨x.toArray⟩],rfl,rfl,fun j u hu=>by
  cases j with
  |zero=>simp at hu;subst hu;simp[strs,hx]
  |succ j=>simp at hu⟩⟩
def afA (w:World)(g:Nat)(cs:List Value):Prop:=∃t fz,w.heap[g]? =some (.cells cs.toArray t fz)
theorem afA.cell {w:World}{g:Nat}{cs:List Value}(h:afA w g cs)(i:Nat):w.cell? ⟨g,i,none⟩=cs[i]? :=by obtain⟨t,fz,h⟩:=h;simp[World.cell?,h]
theorem afA.lt {w:World}{g:Nat}{cs:List Value}(h:afA w g cs):g<w.heap.size:=by obtain⟨t,fz,h⟩:=h;exact(agI.1 h).1
theorem afA.below {w w':World}{g Bd:Nat}{cs:List Value}(h:afA w g cs)(hb:Below Bd w w')(hg:g<Bd):afA w' g cs:=by obtain⟨t,fz,h⟩:=h;exact⟨t,fz,(hb.block g hg).trans h⟩
theorem strs_get {l:List B}{i:Nat}{s:B}(h:l[i]? =some s):(strs l)[i]? =some (.string ⟨s.toArray⟩):=by simp[strs,h]
def notP:Obj->Prop
 | .cells _ t _=>t≠5/\t≠96
 |_=>True
structure KP (w w':World):Prop where
 same:∀(b:Nat) (o:Obj),w.heap[b]? =some o->notP o->w'.heap[b]? =some o
 size:w.heap.size<=w'.heap.size
theorem KP.refl (w:World):KP w w:=⟨fun _ _ h _=>h,ai _⟩
theorem KP.trans {a b c:World}(h:KP a b)(k:KP b c):KP a c:=⟨fun x o hx ho=>k.same x o (h.same x o hx ho) ho,nt h.size k.size⟩
theorem KP.below {w w':World}(h:Below w.heap.size w w'):KP w w':=⟨fun b o hb _=>(h.block b (agI.1 hb).1).trans hb,h.size⟩
theorem KP.alloc (w:World)(o:Obj):KP w (w.alloc o):=KP.below ((agE _ _).alloc (ai _) _)
theorem KP.drewN (w:World)(n:Nat):KP w (w.drewN n):=⟨fun _ _ h _=>h,ai _⟩
theorem KP.bk {w w':World}(h:KP w w'){g:Nat}{t:TypeId}{cs:Array Value}(hb:Bk w g t cs)(h1:t≠5)(h2:t≠96):Bk w' g t cs:=h.same g _ hb ⟨h1,h2⟩
def FT (w:World):Bs:=fun b=>∃o,w.heap[b]? =some o/\notP o
theorem KP.ft {w w':World}(h:KP w w'):Same (FT w) w w':=fun b ⟨o,h1,h2⟩=>(h.same b o h1 h2).trans h1.symm
theorem KP.sub {w w':World}(h:KP w w'):∀b,FT w b->FT w' b:=fun b ⟨o,h1,h2⟩=>⟨o,h.same b o h1 h2,h2⟩
theorem KP.sl {α:Type}{R:Rel α}(ok:R.Ok){size:Nat}{w w':World}{A:Option Addr}{xs:List α}(h:KP w w')(k:Sl R size w (FT w) A xs):Sl R size w' (FT w') A xs:=(k.keep ok h.ft).mono ok h.sub
theorem KP.rel {α:Type}{R:Rel α}(ok:R.Ok){w w':World}{cs:List Value}{x:α}(h:KP w w')(k:R w (FT w) cs x):R w' (FT w') cs x:=ok.mono (ok.keep k h.ft) h.sub
theorem Be {w:World}{b:Nat}{t:TypeId}{cs:Array Value}(h:Bk w b t cs)(h1:t≠5)(h2:t≠96):FT w b:=⟨_,h,h1,h2⟩
structure RV where
 v:Value
 n:Nat
 xs:List Value
def RV.nil:RV:=⟨.slice none 0 0,0,[]⟩
def kT:Nat->TypeId
 |0=>57
 |1=>74
 |2=>60
 |3=>82
 |4=>84
 |5=>89
 |6=>55
 |7=>3
 |8=>146
 |9=>3
 |10=>66
 |11=>68
 |12=>70
 |13=>72
 |_=>78
def kS:Nat->Nat
 |0=>9
 |1=>2
 |2=>3
 |3=>2
 |4=>4
 |5=>1
 |6=>1
 |7=>1
 |8=>3
 |9=>1
 |10=>3
 |11=>4
 |12=>4
 |13=>2
 |_=>6
def BR (t:TypeId):Bool:=[57,74,60,82,84,89,55,3,146,66,68,70,72,78,86,80,22].contains t
theorem U9 (j:Nat):BR (kT j)=true:=by unfold kT;split<;>decide
abbrev Rows:=Nat->RV
def upd (rv:Rows)(i:Nat)(r:RV):Rows:=fun j=>if j=i then r else rv j
theorem upd_same (rv:Rows)(i:Nat)(r:RV):upd rv i r i=r:=by simp[upd]
theorem jv (rv:Rows){i j:Nat}(r:RV)(h:j≠i):upd rv i r j=rv j:=by simp[upd,h]
structure Live (w:World)(Bd:Nat)(rv:Rows):Prop where
 own:∀j,j<15->w.ownsRow Bd (kT j) (kS j) (rv j).v (rv j).n (rv j).xs
 apart:∀i j,i<15->j<15->i≠j->∀g,(rv i).v.ownBlock=some g->(rv j).v.ownBlock≠some g
def Fz (w:World)(rv:Rows):Bs:=fun b=>∃cs t,Bk w b t cs/\BR t=true/\∀j,j<15->(rv j).v.ownBlock≠some b
structure Tr (w:World)(rv:Rows)(w':World)(rv':Rows):Prop where
 same:Same (Fz w rv) w w'
 sub:∀b,Fz w rv b->Fz w' rv' b
theorem Tr.refl (w:World)(rv:Rows):Tr w rv w rv:=⟨Same.refl _ _,fun _ h=>h⟩
theorem Tr.trans {a b c:World}{x y z:Rows}(h:Tr a x b y)(k:Tr b y c z):Tr a x c z:=⟨fun g hg=>(k.same g (h.sub g hg)).trans (h.same g hg),fun g hg=>k.sub g (h.sub g hg)⟩
theorem Tr.rel {α:Type}{R:Rel α}(ok:R.Ok){w w':World}{rv rv':Rows}{cs:List Value}{x:α}(h:Tr w rv w' rv')(k:R w (Fz w rv) cs x):R w' (Fz w' rv') cs x:=ok.mono (ok.keep k h.same) h.sub
theorem Tr.sl {α:Type}{R:Rel α}(ok:R.Ok){size:Nat}{w w':World}{rv rv':Rows}{A:Option Addr}{xs:List α}(h:Tr w rv w' rv')(k:Sl R size w (Fz w rv) A xs):Sl R size w' (Fz w' rv') A xs:=(k.keep ok h.same).mono ok h.sub
theorem Tr.fl {α:Type}{R:Rel α}(ok:R.Ok){size:Nat}{w w':World}{rv rv':Rows}{cs:List Value}{xs:List α}(h:Tr w rv w' rv')(k:Fl R size w (Fz w rv) cs xs):Fl R size w' (Fz w' rv') cs xs:=(k.keep ok h.same).mono ok h.sub
theorem Jp {w:World}{base:Nat}{e:TypeId}{size:Nat}{v:Value}{n:Nat}{xs:List Value}(h:w.ownsRow base e size v n xs){g:Nat}(hg:v.ownBlock=some g):∃cur,Bk w g e cur:=gW h g hg
theorem jM {w:World}{g:Nat}{t t':TypeId}{cs cs':Array Value}(h:Bk w g t cs)(k:Bk w g t' cs'):t=t'/\cs=cs':=by
 unfold Bk at h k;rw[h] at k;injection k with k
 injection k with k1 k2
 exact⟨k2,k1⟩
theorem Live.keep {w w':World}{Bd:Nat}{rv:Rows}(h:Live w Bd rv)(hk:∀j,j<15->∀g,(rv j).v.ownBlock=some g->w'.heap[g]? =w.heap[g]?):Live w' Bd rv:=
 ⟨fun j hj=>by
  obtain⟨h1,h2⟩:=h.own j hj;refine⟨h1,?_⟩;rcases h2 with h2|⟨g,cap,cur,e,hb,hg,rest⟩
  ·exact .inl h2
  exact .inr ⟨g,cap,cur,e,hb,(hk j hj g (by rw[e];rfl)).trans hg,rest⟩,h.apart⟩
theorem Live.below {w w':World}{Bd:Nat}{rv:Rows}(h:Live w Bd rv)(hb:Below w.heap.size w w'):Live w' Bd rv:=h.keep fun j hj g hg=>hb.block g ((h.own j hj).lt g hg).2
theorem Tr.below {w w':World}{rv:Rows}(hb:Below w.heap.size w w'):Tr w rv w' rv:=⟨fun b ⟨cs,t,h1,_⟩=>hb.block b h1.lt,fun b ⟨cs,t,h1,h2,h3⟩=>⟨cs,t,(hb.block b h1.lt).trans h1,h2,h3⟩⟩
theorem Live.other {w w':World}{Bd:Nat}{rv:Rows}(h:Live w Bd rv){row:Option Nat}(hg:w.grownBy w' row)(hr:∀g,row=some g->∀t cs,Bk w g t cs->BR t=false):Live w' Bd rv:=
 h.keep fun j hj g hgj=>hg.block g ((h.own j hj).lt g hgj).2 (fun e=>by
  obtain⟨cur,hb⟩:=Jp (h.own j hj) hgj;have:=hr g e.symm _ _ hb;rw[U9] at this;cases this)
theorem Tr.other {w w':World}{rv:Rows}{row:Option Nat}(hg:w.grownBy w' row)(hr:∀g,row=some g->∀t cs,Bk w g t cs->BR t=false):Tr w rv w' rv:=by
 have key:∀b,Fz w rv b->w'.heap[b]? =w.heap[b]? :=fun b ⟨cs,t,h1,h2,_⟩=>hg.block b h1.lt (fun e=>by
  have:=hr b e.symm _ _ h1;rw[h2] at this;cases this)
 exact⟨key,fun b hb=>by
  obtain⟨cs,t,h1,h2,h3⟩:=hb;exact⟨cs,t,(key b ⟨cs,t,h1,h2,h3⟩).trans h1,h2,h3⟩⟩
theorem Live.row {w w':World}{Bd:Nat}{rv:Rows}(h:Live w Bd rv){i:Nat}(hi:i<15){r:RV}(hg:w.grownBy w' (rv i).v.ownBlock)(ho:w'.ownsRow Bd (kT i) (kS i) r.v r.n r.xs)
  (hl:r.v.ownBlock=(rv i).v.ownBlock\/∀g,r.v.ownBlock=some g->w.heap.size<=g):Live w' Bd (upd rv i r):=by
 have hne:∀j,j<15->j≠i->(rv j).v.ownBlock=none\/(rv j).v.ownBlock≠(rv i).v.ownBlock:=fun j hj hji=>by
  cases hb:(rv j).v.ownBlock with
  |none=>exact .inl rfl
  |some g=>exact .inr (fun e=>h.apart j i hj hi hji g hb e.symm)
 have hnew:∀j,j<15->j≠i->∀g,(rv j).v.ownBlock=some g->r.v.ownBlock≠some g:=fun j hj hji g hb e=>by
  rcases hl with hl|hl
  ·rw[hl] at e;exact h.apart j i hj hi hji g hb e
  have:=hl g e;have:=((h.own j hj).lt g hb).2;omega
 refine⟨fun j hj=> ?_,fun a b ha hb hab g=> ?_⟩
 ·by_cases hji:j=i
  ·subst hji;rw[upd_same];exact ho
  rw[jv _ _ hji];exact(h.own j hj).kept hg (hne j hj hji)
 by_cases hai:a=i
 ·subst hai;rw[upd_same,jv _ _ (Ne.symm hab)];intro e1 e2;exact hnew b hb (Ne.symm hab) g e2 e1
 rw[jv _ _ hai];by_cases hbi:b=i
 ·subst hbi;rw[upd_same];exact hnew a ha hai g
 rw[jv _ _ hbi];exact h.apart a b ha hb hab g
theorem Tr.row {w w':World}{rv:Rows}{i:Nat}(hi:i<15){r:RV}(hg:w.grownBy w' (rv i).v.ownBlock)(hl:r.v.ownBlock=(rv i).v.ownBlock\/∀g,r.v.ownBlock=some g->w.heap.size<=g):Tr w rv w' (upd rv i r):=by
 have key:∀b,Fz w rv b->w'.heap[b]? =w.heap[b]? :=fun b ⟨cs,t,h1,h2,h3⟩=>hg.block b h1.lt (fun e=>h3 i hi e.symm)
 refine⟨key,fun b hb=> ?_⟩;obtain⟨cs,t,h1,h2,h3⟩:=hb;refine⟨cs,t,(key b ⟨cs,t,h1,h2,h3⟩).trans h1,h2,fun j hj=> ?_⟩;by_cases hji:j=i
 ·subst hji;rw[upd_same];rcases hl with hl|hl
  ·rw[hl];exact h3 j hi
  intro e;have:=hl b e;have:=h1.lt;omega
 rw[jv _ _ hji];exact h3 j hj
theorem Live.drop {w:World}{Bd:Nat}{rv:Rows}(h:Live w Bd rv)(i:Nat):Live w Bd (upd rv i RV.nil):=by
 refine⟨fun j hj=> ?_,fun a b ha hb hab g=> ?_⟩
 ·by_cases hji:j=i
  ·subst hji;rw[upd_same];exact World.ownsRow_nil w Bd _ _
  rw[jv _ _ hji];exact h.own j hj
 by_cases hai:a=i
 ·subst hai;rw[upd_same];intro e;cases e
 rw[jv _ _ hai];by_cases hbi:b=i
 ·subst hbi;rw[upd_same];intro _ e;cases e
 rw[jv _ _ hbi];exact h.apart a b ha hb hab g
theorem Tr.drop (w:World)(rv:Rows)(i:Nat):Tr w rv w (upd rv i RV.nil):=
 ⟨Same.refl _ _,fun b ⟨cs,t,h1,h2,h3⟩=>⟨cs,t,h1,h2,fun j hj=>by
  by_cases hji:j=i
  ·subst hji;rw[upd_same];intro e;cases e
  rw[jv _ _ hji];exact h3 j hj⟩⟩
theorem Sl.afQ {α:Type}{R:Rel α}{size:Nat}{w:World}{S:Bs}{cells:List Value}{xs:List α}{A:Option Addr}{base n c:Nat}{e:TypeId}(h:w.ownsRow base e size (.slice A n c) n cells)(hf:Fl R size w S cells xs)(hS:∀g,(Value.slice A n c).ownBlock=some g->S g)(hsz:0<size):Sl R size w S A xs:=by
 refine⟨cells,hf,fun h0=> ?_⟩;rcases h.2 with⟨h1,h2⟩|⟨g,cap,cur,h1,hb,hh,hn,-⟩
 ·have h3:=h.1;have h4:=hf.1;subst h2;simp only[Nat.zero_mul,List.length_eq_zero_iff] at h3;subst h3;have:=Nat.mul_pos h0 hsz;rw[<-h4] at this;simp at this
 simp only[ahr,true_and] at h1;obtain⟨rfl,rfl⟩:=h1;refine⟨g,0,rfl,hS g rfl,fun j u hu=> ?_⟩;have:=h.cells (g:=g) rfl j u hu
 rwa [addr_add] at this
theorem EK {w:World}{base:Nat}{e:TypeId}{size:Nat}{v:Value}{n:Nat}{xs:List Value}(h:w.ownsRow base e size v n xs):∃A c,v= .slice A n c:=by
 rcases h.2 with⟨rfl,rfl⟩|⟨g,cap,cur,rfl,_⟩
 ·exact⟨none,0,rfl⟩
 exact⟨_,_,rfl⟩
end
end Go.Proofs.YtkijckccfookeaaDoor
