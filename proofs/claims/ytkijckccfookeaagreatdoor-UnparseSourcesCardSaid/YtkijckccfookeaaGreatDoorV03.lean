/- Lemmas. -/
import Derived.Test.YtkijckccfookeaaGreatDoorV02
set_option linter.unusedVariables false
set_option linter.unusedSimpArgs false
set_option maxRecDepth 100000
set_option maxHeartbeats 32000000
namespace Go.Proofs.YtkijckccfookeaaGreatDoor
section
open Go.RowKit
def I64 (z:Int):Prop:= -9223372036854775808<=z/\z<=9223372036854775807
theorem I64.small {z:Int}(h1: -1000000000<=z)(h2:z<=1000000000):I64 z:=⟨by omega,by omega⟩
def ahT:Rel Int:=fun _ _ cs x=>cs=[.int .i64 x]/\I64 x
theorem ahT.ok:ahT.Ok:=⟨fun h _=>h,fun h _=>h⟩
theorem Sl.int {w:World}{S:Bs}{A:Option Addr}{xs:List Int}(h:Sl ahT 1 w S A xs){k:Nat}(hk:k<xs.length):∃b o x,A=some ⟨b,o,none⟩/\S b/\Hid (xs[k]? =some x)/\w.cell? ⟨b,o+k,none⟩=some (.int .i64 x)/\I64 x:=by obtain⟨b,o,x,cs,e,hb,hx,hr,-,hc⟩:=h.get hk;obtain⟨rfl,r0⟩:=hr;simp only[Nat.mul_one] at hc;exact⟨b,o,x,e,hb,hx,hc 0 _ rfl,r0⟩
def ai4:Rel B:=fun _ _ cs x=>cs=[.string ⟨x.toArray⟩]
theorem ai4.ok:ai4.Ok:=⟨fun h _=>h,fun h _=>h⟩
theorem Sl.str {w:World}{S:Bs}{A:Option Addr}{xs:List B}(h:Sl ai4 1 w S A xs){k:Nat}(hk:k<xs.length):∃b o x,A=some ⟨b,o,none⟩/\S b/\Hid (xs[k]? =some x)/\w.cell? ⟨b,o+k,none⟩=some (.string ⟨x.toArray⟩):=by obtain⟨b,o,x,cs,e,hb,hx,hr,-,hc⟩:=h.get hk;obtain rfl:=hr;simp only[Nat.mul_one] at hc;exact⟨b,o,x,e,hb,hx,hc 0 _ rfl⟩
def ahV:Rel (List Int):=SlV ahT 1
theorem ahV.ok:ahV.Ok:=SlV.ok ahT.ok
theorem Sl.row {w:World}{S:Bs}{A:Option Addr}{xs:List (List Int)}(h:Sl ahV 1 w S A xs){k:Nat}(hk:k<xs.length):∃b o x A1 c1,A=some ⟨b,o,none⟩/\S b/\Hid (xs[k]? =some x)/\w.cell? ⟨b,o+k,none⟩=some (.slice A1 x.length c1)/\Sl ahT 1 w S A1 x:=by obtain⟨b,o,x,cs,e,hb,hx,hr,-,hc⟩:=h.get hk;obtain⟨A1,c1,rfl,h1⟩:=hr;simp only[Nat.mul_one] at hc;exact⟨b,o,x,A1,c1,e,hb,hx,hc 0 _ rfl,h1⟩
def ah5:Rel Ins:=fun _ _ cs x=>cs=[.int .i64 x.op,.int .i64 x.a]/\I64 x.op/\I64 x.a
theorem ah5.ok:ah5.Ok:=⟨fun h _=>h,fun h _=>h⟩
theorem Sl.ins {w:World}{S:Bs}{A:Option Addr}{xs:List Ins}(h:Sl ah5 2 w S A xs){k:Nat}(hk:k<xs.length):∃b o x,A=some ⟨b,o,none⟩/\S b/\Hid (xs[k]? =some x)/\w.cell? ⟨b,o+k*2,none⟩=some (.int .i64 x.op)/\w.cell? ⟨b,o+k*2+1,none⟩=some (.int .i64 x.a)/\I64 x.op/\I64 x.a:=by obtain⟨b,o,x,cs,e,hb,hx,hr,-,hc⟩:=h.get hk;obtain⟨rfl,r0,r1⟩:=hr;exact⟨b,o,x,e,hb,hx,hc 0 _ rfl,hc 1 _ rfl,r0,r1⟩
def aih:Rel (List Ins):=SlV ah5 2
theorem aih.ok:aih.Ok:=SlV.ok ah5.ok
theorem Sl.code {w:World}{S:Bs}{A:Option Addr}{xs:List (List Ins)}(h:Sl aih 1 w S A xs){k:Nat}(hk:k<xs.length):∃b o x A1 c1,A=some ⟨b,o,none⟩/\S b/\Hid (xs[k]? =some x)/\w.cell? ⟨b,o+k,none⟩=some (.slice A1 x.length c1)/\Sl ah5 2 w S A1 x:=by obtain⟨b,o,x,cs,e,hb,hx,hr,-,hc⟩:=h.get hk;obtain⟨A1,c1,rfl,h1⟩:=hr;simp only[Nat.mul_one] at hc;exact⟨b,o,x,A1,c1,e,hb,hx,hc 0 _ rfl,h1⟩
def PtR:Rel Pt:=fun _ _ cs x=>cs=[.int .i64 x.x,.int .i64 x.y,.bool x.on]/\I64 x.x/\I64 x.y
theorem PtR.ok:PtR.Ok:=⟨fun h _=>h,fun h _=>h⟩
theorem Sl.pt {w:World}{S:Bs}{A:Option Addr}{xs:List Pt}(h:Sl PtR 3 w S A xs){k:Nat}(hk:k<xs.length):∃b o x,A=some ⟨b,o,none⟩/\S b/\Hid (xs[k]? =some x)/\w.cell? ⟨b,o+k*3,none⟩=some (.int .i64 x.x)/\w.cell? ⟨b,o+k*3+1,none⟩=some (.int .i64 x.y)/\w.cell? ⟨b,o+k*3+2,none⟩=some (.bool x.on)/\I64 x.x/\I64 x.y:=by obtain⟨b,o,x,cs,e,hb,hx,hr,-,hc⟩:=h.get hk;obtain⟨rfl,r0,r1⟩:=hr;exact⟨b,o,x,e,hb,hx,hc 0 _ rfl,hc 1 _ rfl,hc 2 _ rfl,r0,r1⟩
def ah6:Rel Part:=fun _ _ cs x=>cs=[.int .i64 x.ahU,.int .i64 x.x,.int .i64 x.y]/\I64 x.ahU/\I64 x.x/\I64 x.y
theorem ah6.ok:ah6.Ok:=⟨fun h _=>h,fun h _=>h⟩
theorem Sl.part {w:World}{S:Bs}{A:Option Addr}{xs:List Part}(h:Sl ah6 3 w S A xs){k:Nat}(hk:k<xs.length):∃b o x,A=some ⟨b,o,none⟩/\S b/\Hid (xs[k]? =some x)/\w.cell? ⟨b,o+k*3,none⟩=some (.int .i64 x.ahU)/\w.cell? ⟨b,o+k*3+1,none⟩=some (.int .i64 x.x)/\w.cell? ⟨b,o+k*3+2,none⟩=some (.int .i64 x.y)/\I64 x.ahU/\I64 x.x/\I64 x.y:=by obtain⟨b,o,x,cs,e,hb,hx,hr,-,hc⟩:=h.get hk;obtain⟨rfl,r0,r1,r2⟩:=hr;exact⟨b,o,x,e,hb,hx,hc 0 _ rfl,hc 1 _ rfl,hc 2 _ rfl,r0,r1,r2⟩
def ahY:Rel aiK:=fun _ _ cs x=>cs=[.int .i64 x.kind,.int .i64 x.cls,.int .i64 x.x,.int .i64 x.y]/\I64 x.kind/\I64 x.cls/\I64 x.x/\I64 x.y
theorem ahY.ok:ahY.Ok:=⟨fun h _=>h,fun h _=>h⟩
theorem Sl.anchor {w:World}{S:Bs}{A:Option Addr}{xs:List aiK}(h:Sl ahY 4 w S A xs){k:Nat}(hk:k<xs.length):∃b o x,A=some ⟨b,o,none⟩/\S b/\Hid (xs[k]? =some x)/\w.cell? ⟨b,o+k*4,none⟩=some (.int .i64 x.kind)/\w.cell? ⟨b,o+k*4+1,none⟩=some (.int .i64 x.cls)/\w.cell? ⟨b,o+k*4+2,none⟩=some (.int .i64 x.x)/\w.cell? ⟨b,o+k*4+3,none⟩=some (.int .i64 x.y)/\I64 x.kind/\I64 x.cls/\I64 x.x/\I64 x.y:=by obtain⟨b,o,x,cs,e,hb,hx,hr,-,hc⟩:=h.get hk;obtain⟨rfl,r0,r1,r2,r3⟩:=hr;exact⟨b,o,x,e,hb,hx,hc 0 _ rfl,hc 1 _ rfl,hc 2 _ rfl,hc 3 _ rfl,r0,r1,r2,r3⟩
def ah3:Rel Delta:=fun _ _ cs x=>cs=[.int .i64 x.region,.int .i64 x.point,.int .i64 x.x,.int .i64 x.y]/\I64 x.region/\I64 x.point/\I64 x.x/\I64 x.y
theorem ah3.ok:ah3.Ok:=⟨fun h _=>h,fun h _=>h⟩
theorem Sl.delta {w:World}{S:Bs}{A:Option Addr}{xs:List Delta}(h:Sl ah3 4 w S A xs){k:Nat}(hk:k<xs.length):∃b o x,A=some ⟨b,o,none⟩/\S b/\Hid (xs[k]? =some x)/\w.cell? ⟨b,o+k*4,none⟩=some (.int .i64 x.region)/\w.cell? ⟨b,o+k*4+1,none⟩=some (.int .i64 x.point)/\w.cell? ⟨b,o+k*4+2,none⟩=some (.int .i64 x.x)/\w.cell? ⟨b,o+k*4+3,none⟩=some (.int .i64 x.y)/\I64 x.region/\I64 x.point/\I64 x.x/\I64 x.y:=by obtain⟨b,o,x,cs,e,hb,hx,hr,-,hc⟩:=h.get hk;obtain⟨rfl,r0,r1,r2,r3⟩:=hr;exact⟨b,o,x,e,hb,hx,hc 0 _ rfl,hc 1 _ rfl,hc 2 _ rfl,hc 3 _ rfl,r0,r1,r2,r3⟩
def ahW:Rel ahR:=fun w S cs x=>∃A3 c3 A4 c4 A5 c5 A6 c6 A7 c7 A8 c8,cs=[.string ⟨x.name.toArray⟩,.int .i64 x.advance,.bool x.mark,.slice A3 x.points.length c3,.slice A4 x.ends.length c4,.slice A5 x.parts.length c5,.slice A6 x.anchors.length c6,.slice A7 x.deltas.length c7,.slice A8 x.hint.length c8]/\I64 x.advance/\Sl PtR 3 w S A3 x.points/\Sl ahT 1 w S A4 x.ends/\Sl ah6 3 w S A5 x.parts/\Sl ahY 4 w S A6 x.anchors/\Sl ah3 4 w S A7 x.deltas/\Sl ah5 2 w S A8 x.hint
theorem ahW.ok:ahW.Ok:=⟨fun⟨A3,c3,A4,c4,A5,c5,A6,c6,A7,c7,A8,c8,e,r1,h3,h4,h5,h6,h7,h8⟩ hs=>⟨A3,c3,A4,c4,A5,c5,A6,c6,A7,c7,A8,c8,e,r1,h3.keep PtR.ok hs,h4.keep ahT.ok hs,h5.keep ah6.ok hs,h6.keep ahY.ok hs,h7.keep ah3.ok hs,h8.keep ah5.ok hs⟩,fun⟨A3,c3,A4,c4,A5,c5,A6,c6,A7,c7,A8,c8,e,r1,h3,h4,h5,h6,h7,h8⟩ hs=>⟨A3,c3,A4,c4,A5,c5,A6,c6,A7,c7,A8,c8,e,r1,h3.mono PtR.ok hs,h4.mono ahT.ok hs,h5.mono ah6.ok hs,h6.mono ahY.ok hs,h7.mono ah3.ok hs,h8.mono ah5.ok hs⟩⟩
theorem Sl.ahU {w:World}{S:Bs}{A:Option Addr}{xs:List ahR}(h:Sl ahW 9 w S A xs){k:Nat}(hk:k<xs.length):∃b o x A3 c3 A4 c4 A5 c5 A6 c6 A7 c7 A8 c8,A=some ⟨b,o,none⟩/\S b/\Hid (xs[k]? =some x)/\w.cell? ⟨b,o+k*9,none⟩=some (.string ⟨x.name.toArray⟩)/\w.cell? ⟨b,o+k*9+1,none⟩=some (.int .i64 x.advance)/\w.cell? ⟨b,o+k*9+2,none⟩=some (.bool x.mark)/\w.cell? ⟨b,o+k*9+3,none⟩=some (.slice A3 x.points.length c3)/\w.cell? ⟨b,o+k*9+4,none⟩=some (.slice A4 x.ends.length c4)/\w.cell? ⟨b,o+k*9+5,none⟩=some (.slice A5 x.parts.length c5)/\w.cell? ⟨b,o+k*9+6,none⟩=some (.slice A6 x.anchors.length c6)/\w.cell? ⟨b,o+k*9+7,none⟩=some (.slice A7 x.deltas.length c7)/\w.cell? ⟨b,o+k*9+8,none⟩=some (.slice A8 x.hint.length c8)/\I64 x.advance/\Sl PtR 3 w S A3 x.points/\Sl ahT 1 w S A4 x.ends/\Sl ah6 3 w S A5 x.parts/\Sl ahY 4 w S A6 x.anchors/\Sl ah3 4 w S A7 x.deltas/\Sl ah5 2 w S A8 x.hint:=by obtain⟨b,o,x,cs,e,hb,hx,hr,-,hc⟩:=h.get hk;obtain⟨A3,c3,A4,c4,A5,c5,A6,c6,A7,c7,A8,c8,rfl,r1,h3,h4,h5,h6,h7,h8⟩:=hr;exact⟨b,o,x,A3,c3,A4,c4,A5,c5,A6,c6,A7,c7,A8,c8,e,hb,hx,hc 0 _ rfl,hc 1 _ rfl,hc 2 _ rfl,hc 3 _ rfl,hc 4 _ rfl,hc 5 _ rfl,hc 6 _ rfl,hc 7 _ rfl,hc 8 _ rfl,r1,h3,h4,h5,h6,h7,h8⟩
def ait:Rel Chr:=fun _ _ cs x=>cs=[.int .i64 x.rune,.int .i64 x.ahU]/\I64 x.rune/\I64 x.ahU
theorem ait.ok:ait.Ok:=⟨fun h _=>h,fun h _=>h⟩
theorem Sl.chr {w:World}{S:Bs}{A:Option Addr}{xs:List Chr}(h:Sl ait 2 w S A xs){k:Nat}(hk:k<xs.length):∃b o x,A=some ⟨b,o,none⟩/\S b/\Hid (xs[k]? =some x)/\w.cell? ⟨b,o+k*2,none⟩=some (.int .i64 x.rune)/\w.cell? ⟨b,o+k*2+1,none⟩=some (.int .i64 x.ahU)/\I64 x.rune/\I64 x.ahU:=by obtain⟨b,o,x,cs,e,hb,hx,hr,-,hc⟩:=h.get hk;obtain⟨rfl,r0,r1⟩:=hr;exact⟨b,o,x,e,hb,hx,hc 0 _ rfl,hc 1 _ rfl,r0,r1⟩
def air:Rel Call:=fun _ _ cs x=>cs=[.int .i64 x.at',.int .i64 x.lookup]/\I64 x.at'/\I64 x.lookup
theorem air.ok:air.Ok:=⟨fun h _=>h,fun h _=>h⟩
theorem Sl.call {w:World}{S:Bs}{A:Option Addr}{xs:List Call}(h:Sl air 2 w S A xs){k:Nat}(hk:k<xs.length):∃b o x,A=some ⟨b,o,none⟩/\S b/\Hid (xs[k]? =some x)/\w.cell? ⟨b,o+k*2,none⟩=some (.int .i64 x.at')/\w.cell? ⟨b,o+k*2+1,none⟩=some (.int .i64 x.lookup)/\I64 x.at'/\I64 x.lookup:=by obtain⟨b,o,x,cs,e,hb,hx,hr,-,hc⟩:=h.get hk;obtain⟨rfl,r0,r1⟩:=hr;exact⟨b,o,x,e,hb,hx,hc 0 _ rfl,hc 1 _ rfl,r0,r1⟩
def aig:Rel aii:=fun w S cs x=>∃A0 c0 A1 c1 A2 c2 A3 c3 A4 c4,cs=[.slice A0 x.back.length c0,.slice A1 x.in'.length c1,.slice A2 x.ahead.length c2,.slice A3 x.out.length c3,.slice A4 x.calls.length c4,.int .i64 x.x]/\I64 x.x/\Sl ahV 1 w S A0 x.back/\Sl ahV 1 w S A1 x.in'/\Sl ahV 1 w S A2 x.ahead/\Sl ahT 1 w S A3 x.out/\Sl air 2 w S A4 x.calls
theorem aig.ok:aig.Ok:=⟨fun⟨A0,c0,A1,c1,A2,c2,A3,c3,A4,c4,e,r5,h0,h1,h2,h3,h4⟩ hs=>⟨A0,c0,A1,c1,A2,c2,A3,c3,A4,c4,e,r5,h0.keep ahV.ok hs,h1.keep ahV.ok hs,h2.keep ahV.ok hs,h3.keep ahT.ok hs,h4.keep air.ok hs⟩,fun⟨A0,c0,A1,c1,A2,c2,A3,c3,A4,c4,e,r5,h0,h1,h2,h3,h4⟩ hs=>⟨A0,c0,A1,c1,A2,c2,A3,c3,A4,c4,e,r5,h0.mono ahV.ok hs,h1.mono ahV.ok hs,h2.mono ahV.ok hs,h3.mono ahT.ok hs,h4.mono air.ok hs⟩⟩
theorem Sl.rule {w:World}{S:Bs}{A:Option Addr}{xs:List aii}(h:Sl aig 6 w S A xs){k:Nat}(hk:k<xs.length):∃b o x A0 c0 A1 c1 A2 c2 A3 c3 A4 c4,A=some ⟨b,o,none⟩/\S b/\Hid (xs[k]? =some x)/\w.cell? ⟨b,o+k*6,none⟩=some (.slice A0 x.back.length c0)/\w.cell? ⟨b,o+k*6+1,none⟩=some (.slice A1 x.in'.length c1)/\w.cell? ⟨b,o+k*6+2,none⟩=some (.slice A2 x.ahead.length c2)/\w.cell? ⟨b,o+k*6+3,none⟩=some (.slice A3 x.out.length c3)/\w.cell? ⟨b,o+k*6+4,none⟩=some (.slice A4 x.calls.length c4)/\w.cell? ⟨b,o+k*6+5,none⟩=some (.int .i64 x.x)/\I64 x.x/\Sl ahV 1 w S A0 x.back/\Sl ahV 1 w S A1 x.in'/\Sl ahV 1 w S A2 x.ahead/\Sl ahT 1 w S A3 x.out/\Sl air 2 w S A4 x.calls:=by obtain⟨b,o,x,cs,e,hb,hx,hr,-,hc⟩:=h.get hk;obtain⟨A0,c0,A1,c1,A2,c2,A3,c3,A4,c4,rfl,r5,h0,h1,h2,h3,h4⟩:=hr;exact⟨b,o,x,A0,c0,A1,c1,A2,c2,A3,c3,A4,c4,e,hb,hx,hc 0 _ rfl,hc 1 _ rfl,hc 2 _ rfl,hc 3 _ rfl,hc 4 _ rfl,hc 5 _ rfl,r5,h0,h1,h2,h3,h4⟩
def ah1:Rel Lookup:=fun w S cs x=>∃A2 c2,cs=[.int .i64 x.kind,.bool x.aik,.slice A2 x.rules.length c2]/\I64 x.kind/\Sl aig 6 w S A2 x.rules
theorem ah1.ok:ah1.Ok:=⟨fun⟨A2,c2,e,r0,h2⟩ hs=>⟨A2,c2,e,r0,h2.keep aig.ok hs⟩,fun⟨A2,c2,e,r0,h2⟩ hs=>⟨A2,c2,e,r0,h2.mono aig.ok hs⟩⟩
theorem Sl.lookup {w:World}{S:Bs}{A:Option Addr}{xs:List Lookup}(h:Sl ah1 3 w S A xs){k:Nat}(hk:k<xs.length):∃b o x A2 c2,A=some ⟨b,o,none⟩/\S b/\Hid (xs[k]? =some x)/\w.cell? ⟨b,o+k*3,none⟩=some (.int .i64 x.kind)/\w.cell? ⟨b,o+k*3+1,none⟩=some (.bool x.aik)/\w.cell? ⟨b,o+k*3+2,none⟩=some (.slice A2 x.rules.length c2)/\I64 x.kind/\Sl aig 6 w S A2 x.rules:=by obtain⟨b,o,x,cs,e,hb,hx,hr,-,hc⟩:=h.get hk;obtain⟨A2,c2,rfl,r0,h2⟩:=hr;exact⟨b,o,x,A2,c2,e,hb,hx,hc 0 _ rfl,hc 1 _ rfl,hc 2 _ rfl,r0,h2⟩
def ah2:Rel aip:=fun w S cs x=>∃A1 c1,cs=[.string ⟨x.name.toArray⟩,.slice A1 x.ahP.length c1]/\Sl ahT 1 w S A1 x.ahP
theorem ah2.ok:ah2.Ok:=⟨fun⟨A1,c1,e,h1⟩ hs=>⟨A1,c1,e,h1.keep ahT.ok hs⟩,fun⟨A1,c1,e,h1⟩ hs=>⟨A1,c1,e,h1.mono ahT.ok hs⟩⟩
theorem Sl.ai9 {w:World}{S:Bs}{A:Option Addr}{xs:List aip}(h:Sl ah2 2 w S A xs){k:Nat}(hk:k<xs.length):∃b o x A1 c1,A=some ⟨b,o,none⟩/\S b/\Hid (xs[k]? =some x)/\w.cell? ⟨b,o+k*2,none⟩=some (.string ⟨x.name.toArray⟩)/\w.cell? ⟨b,o+k*2+1,none⟩=some (.slice A1 x.ahP.length c1)/\Sl ahT 1 w S A1 x.ahP:=by obtain⟨b,o,x,cs,e,hb,hx,hr,-,hc⟩:=h.get hk;obtain⟨A1,c1,rfl,h1⟩:=hr;exact⟨b,o,x,A1,c1,e,hb,hx,hc 0 _ rfl,hc 1 _ rfl,h1⟩
def aij:Rel aiM:=fun _ _ cs x=>cs=[.string ⟨x.name.toArray⟩,.int .i64 x.min',.int .i64 x.aiv,.int .i64 x.max']/\I64 x.min'/\I64 x.aiv/\I64 x.max'
theorem aij.ok:aij.Ok:=⟨fun h _=>h,fun h _=>h⟩
theorem Sl.aje {w:World}{S:Bs}{A:Option Addr}{xs:List aiM}(h:Sl aij 4 w S A xs){k:Nat}(hk:k<xs.length):∃b o x,A=some ⟨b,o,none⟩/\S b/\Hid (xs[k]? =some x)/\w.cell? ⟨b,o+k*4,none⟩=some (.string ⟨x.name.toArray⟩)/\w.cell? ⟨b,o+k*4+1,none⟩=some (.int .i64 x.min')/\w.cell? ⟨b,o+k*4+2,none⟩=some (.int .i64 x.aiv)/\w.cell? ⟨b,o+k*4+3,none⟩=some (.int .i64 x.max')/\I64 x.min'/\I64 x.aiv/\I64 x.max':=by obtain⟨b,o,x,cs,e,hb,hx,hr,-,hc⟩:=h.get hk;obtain⟨rfl,r1,r2,r3⟩:=hr;exact⟨b,o,x,e,hb,hx,hc 0 _ rfl,hc 1 _ rfl,hc 2 _ rfl,hc 3 _ rfl,r1,r2,r3⟩
def aiI:Rel aiH:=fun _ _ cs x=>cs=[.int .i64 x.start,.int .i64 x.peak,.int .i64 x.stop]/\I64 x.start/\I64 x.peak/\I64 x.stop
theorem aiI.ok:aiI.Ok:=⟨fun h _=>h,fun h _=>h⟩
theorem Sl.ajB {w:World}{S:Bs}{A:Option Addr}{xs:List aiH}(h:Sl aiI 3 w S A xs){k:Nat}(hk:k<xs.length):∃b o x,A=some ⟨b,o,none⟩/\S b/\Hid (xs[k]? =some x)/\w.cell? ⟨b,o+k*3,none⟩=some (.int .i64 x.start)/\w.cell? ⟨b,o+k*3+1,none⟩=some (.int .i64 x.peak)/\w.cell? ⟨b,o+k*3+2,none⟩=some (.int .i64 x.stop)/\I64 x.start/\I64 x.peak/\I64 x.stop:=by obtain⟨b,o,x,cs,e,hb,hx,hr,-,hc⟩:=h.get hk;obtain⟨rfl,r0,r1,r2⟩:=hr;exact⟨b,o,x,e,hb,hx,hc 0 _ rfl,hc 1 _ rfl,hc 2 _ rfl,r0,r1,r2⟩
def ah7:Rel Region:=fun w S cs x=>∃A0 c0,cs=[.slice A0 x.ah4.length c0]/\Sl aiI 3 w S A0 x.ah4
theorem ah7.ok:ah7.Ok:=⟨fun⟨A0,c0,e,h0⟩ hs=>⟨A0,c0,e,h0.keep aiI.ok hs⟩,fun⟨A0,c0,e,h0⟩ hs=>⟨A0,c0,e,h0.mono aiI.ok hs⟩⟩
theorem Sl.region {w:World}{S:Bs}{A:Option Addr}{xs:List Region}(h:Sl ah7 1 w S A xs){k:Nat}(hk:k<xs.length):∃b o x A0 c0,A=some ⟨b,o,none⟩/\S b/\Hid (xs[k]? =some x)/\w.cell? ⟨b,o+k,none⟩=some (.slice A0 x.ah4.length c0)/\Sl aiI 3 w S A0 x.ah4:=by obtain⟨b,o,x,cs,e,hb,hx,hr,-,hc⟩:=h.get hk;obtain⟨A0,c0,rfl,h0⟩:=hr;simp only[Nat.mul_one] at hc;exact⟨b,o,x,A0,c0,e,hb,hx,hc 0 _ rfl,h0⟩
def aim:Rel Fnt:=fun w S cs x=>∃A1 c1 A2 c2 A3 c3 A4 c4 A5 c5 A6 c6 A7 c7 A8 c8,cs=[.int .i64 x.unit,.slice A1 x.ahO.length c1,.slice A2 x.chars.length c2,.slice A3 x.ahP.length c3,.slice A4 x.features.length c4,.slice A5 x.ahQ.length c5,.slice A6 x.regions.length c6,.slice A7 x.funcs.length c7,.slice A8 x.cvt.length c8]/\I64 x.unit/\Sl ahW 9 w S A1 x.ahO/\Sl ait 2 w S A2 x.chars/\Sl ah1 3 w S A3 x.ahP/\Sl ah2 2 w S A4 x.features/\Sl aij 4 w S A5 x.ahQ/\Sl ah7 1 w S A6 x.regions/\Sl aih 1 w S A7 x.funcs/\Sl ahT 1 w S A8 x.cvt
theorem aim.ok:aim.Ok:=⟨fun⟨A1,c1,A2,c2,A3,c3,A4,c4,A5,c5,A6,c6,A7,c7,A8,c8,e,r0,h1,h2,h3,h4,h5,h6,h7,h8⟩ hs=>⟨A1,c1,A2,c2,A3,c3,A4,c4,A5,c5,A6,c6,A7,c7,A8,c8,e,r0,h1.keep ahW.ok hs,h2.keep ait.ok hs,h3.keep ah1.ok hs,h4.keep ah2.ok hs,h5.keep aij.ok hs,h6.keep ah7.ok hs,h7.keep aih.ok hs,h8.keep ahT.ok hs⟩,fun⟨A1,c1,A2,c2,A3,c3,A4,c4,A5,c5,A6,c6,A7,c7,A8,c8,e,r0,h1,h2,h3,h4,h5,h6,h7,h8⟩ hs=>⟨A1,c1,A2,c2,A3,c3,A4,c4,A5,c5,A6,c6,A7,c7,A8,c8,e,r0,h1.mono ahW.ok hs,h2.mono ait.ok hs,h3.mono ah1.ok hs,h4.mono ah2.ok hs,h5.mono aij.ok hs,h6.mono ah7.ok hs,h7.mono aih.ok hs,h8.mono ahT.ok hs⟩⟩
theorem Sl.fnt {w:World}{S:Bs}{A:Option Addr}{xs:List Fnt}(h:Sl aim 9 w S A xs){k:Nat}(hk:k<xs.length):∃b o x A1 c1 A2 c2 A3 c3 A4 c4 A5 c5 A6 c6 A7 c7 A8 c8,A=some ⟨b,o,none⟩/\S b/\Hid (xs[k]? =some x)/\w.cell? ⟨b,o+k*9,none⟩=some (.int .i64 x.unit)/\w.cell? ⟨b,o+k*9+1,none⟩=some (.slice A1 x.ahO.length c1)/\w.cell? ⟨b,o+k*9+2,none⟩=some (.slice A2 x.chars.length c2)/\w.cell? ⟨b,o+k*9+3,none⟩=some (.slice A3 x.ahP.length c3)/\w.cell? ⟨b,o+k*9+4,none⟩=some (.slice A4 x.features.length c4)/\w.cell? ⟨b,o+k*9+5,none⟩=some (.slice A5 x.ahQ.length c5)/\w.cell? ⟨b,o+k*9+6,none⟩=some (.slice A6 x.regions.length c6)/\w.cell? ⟨b,o+k*9+7,none⟩=some (.slice A7 x.funcs.length c7)/\w.cell? ⟨b,o+k*9+8,none⟩=some (.slice A8 x.cvt.length c8)/\I64 x.unit/\Sl ahW 9 w S A1 x.ahO/\Sl ait 2 w S A2 x.chars/\Sl ah1 3 w S A3 x.ahP/\Sl ah2 2 w S A4 x.features/\Sl aij 4 w S A5 x.ahQ/\Sl ah7 1 w S A6 x.regions/\Sl aih 1 w S A7 x.funcs/\Sl ahT 1 w S A8 x.cvt:=by obtain⟨b,o,x,cs,e,hb,hx,hr,-,hc⟩:=h.get hk;obtain⟨A1,c1,A2,c2,A3,c3,A4,c4,A5,c5,A6,c6,A7,c7,A8,c8,rfl,r0,h1,h2,h3,h4,h5,h6,h7,h8⟩:=hr;exact⟨b,o,x,A1,c1,A2,c2,A3,c3,A4,c4,A5,c5,A6,c6,A7,c7,A8,c8,e,hb,hx,hc 0 _ rfl,hc 1 _ rfl,hc 2 _ rfl,hc 3 _ rfl,hc 4 _ rfl,hc 5 _ rfl,hc 6 _ rfl,hc 7 _ rfl,hc 8 _ rfl,r0,h1,h2,h3,h4,h5,h6,h7,h8⟩
end
section
open Go.RowKit Go.MapKept
structure Emb (κ :Type) where
 emb: κ ->Value
 d:TypeDesc
 inj:∀ {a b},emb a=emb b->a=b
 key:∀a,IsKey d (emb a)
def lU:Emb B where
 emb a:= .string ⟨a.toArray⟩
 d:= .string
 inj h:=by
  injection h with h
  injection h with h
  exact List.toArray_inj h
 key a:=trivial
def Ha:Emb Int where
 emb a:= .int .i64 a
 d:= .int .i64
 inj h:=by injection h
 key a:=rfl
def ah0 {κ :Type}(E:Emb κ)(w:World)(b:Nat)(f: κ ->Option Value):Prop:=
 ∃es clock,∃kv:List (κ ×Value),w.heap[b]? =some (.map es clock)/\es.toList.map (fun e=>(e.key,e.val))=kv.map (fun x: κ ×Value=>(E.emb x.1,x.2))/\
  ∀k v,f k=some v ↔ (k,v)∈kv
section
variable {κ :Type} {E:Emb κ} {w w':World} {b:Nat} {f: κ ->Option Value}
theorem ah0.lt (h:ah0 E w b f):b<w.heap.size:=by obtain⟨es,clock,kv,h1,_⟩:=h;exact(akp.1 h1).1
theorem ah0.keep (h:ah0 E w b f)(hk:w'.heap[b]? =w.heap[b]?):ah0 E w' b f:=by obtain⟨es,clock,kv,h1,h2⟩:=h;exact⟨es,clock,kv,hk.trans h1,h2⟩
theorem ah0.below (h:ah0 E w b f)(hb:Below w.heap.size w w'):ah0 E w' b f:=h.keep (hb.block b h.lt)
theorem ah0.grown (h:ah0 E w b f){row:Option Nat}(hg:w.grownBy w' row)(hne:some b≠row):ah0 E w' b f:=h.keep (hg.block b h.lt hne)
theorem ah0.drewN (h:ah0 E w b f)(n:Nat):ah0 E (w.drewN n) b f:=h
theorem ah0.drew (h:ah0 E w b f):ah0 E w.drew b f:=h
theorem ah0.isMap (h:ah0 E w b f):∃es clock,w.heap[b]? =some (.map es clock):=by obtain⟨es,clock,kv,h1,h2⟩:=h;exact⟨es,clock,h1⟩
theorem ah0.new (E:Emb κ)(w:World):ah0 E (w.alloc (.map #[] 0)) w.heap.size (fun _=>none):=⟨#[],0,[],heap_alloc_new w _,rfl,by simp⟩
theorem ah0.congr (h:ah0 E w b f){g: κ ->Option Value}(hg:∀k,g k=f k):ah0 E w b g:=by obtain⟨es,clock,kv,h1,h2,h3⟩:=h;exact⟨es,clock,kv,h1,h2,fun k v=>by rw[hg];exact h3 k v⟩
theorem ah0.find {P:Program}{K:TypeId}(h:ah0 E w b f)(hK:P.underlying K=some E.d)(k: κ):
  ∃es clock,w.heap[b]? =some (.map es clock)/\((f k=none/\(Instr.findKey K (E.emb k) es.toList).run P w= .ok none w)\/∃v j,f k=some v/\(Instr.findKey K (E.emb k) es.toList).run P w= .ok (some (j,v)) w):=by
 obtain⟨es,clock,kv,h1,h2,h3⟩:=h;refine⟨es,clock,h1,?_⟩;have hks:∀x∈es.toList,IsKey E.d x.key:=by
  intro x hx;have:(x.key,x.val)∈es.toList.map (fun e=>(e.key,e.val)):=akQ.2 ⟨x,hx,rfl⟩;rw[h2,akQ] at this;obtain⟨y,_,hy⟩:=this;injection hy with hy1 hy2
  rw[<-hy1];exact E.key _
 rcases findNow_spec (d:=E.d) (E.key k) es.toList 0 hks with⟨g1,g2⟩|⟨j,e,g1,g2,g3⟩
 ·refine .inl ⟨?_,run_findKey hK g1⟩;cases hf:f k with
  |none=>rfl
  |some v=>
   have hm:=(h3 k v).1 hf;have:(E.emb k,v)∈kv.map (fun x: κ ×Value=>(E.emb x.1,x.2)):=akQ.2 ⟨(k,v),hm,rfl⟩;rw[<-h2,akQ] at this;obtain⟨x,hx,hy⟩:=this;injection hy with hy1 hy2
   exact absurd hy1 (g2 x hx)
 refine .inr ⟨e.val,0+j,?_,run_findKey hK g1⟩;have he:e∈es.toList:=akt g2;have:(e.key,e.val)∈es.toList.map (fun e=>(e.key,e.val)):=akQ.2 ⟨e,he,rfl⟩;rw[h2,akQ] at this;obtain⟨y,hy,hy2⟩:=this;injection hy2 with hy3 hy4
 have:y.1=k:=E.inj (hy3.trans g3);rw[h3];rw[<-this,<-hy4];exact hy
theorem ah0.ai2 {P:Program}{T K El:TypeId}(h:ah0 E w b f)(hT:P.underlying T=some (.map K El))(hK:P.underlying K=some E.d){z:Value}(hz:(zeroValue El).run P w= .ok z w)(k: κ):
  (Instr.lookup T (.map (some b)) (E.emb k) true).run P w= .ok (.tuple #[(f k).getD z,.bool (f k).isSome]) w:=by
 obtain⟨es,clock,h1,⟨h2,h3⟩|⟨v,j,h2,h3⟩⟩:=h.find hK k
 ·simp[Instr.lookup,run_underlying hT,MapKept.run_getObj_map h1,MapKept.run_checkKey hK (E.key k),h3,hz,Result.andThen,h2]
 simp[Instr.lookup,run_underlying hT,MapKept.run_getObj_map h1,MapKept.run_checkKey hK (E.key k),h3,Result.andThen,h2]
theorem ah0.look1 {P:Program}{T K El:TypeId}(h:ah0 E w b f)(hT:P.underlying T=some (.map K El))(hK:P.underlying K=some E.d){z:Value}(hz:(zeroValue El).run P w= .ok z w)(k: κ):
  (Instr.lookup T (.map (some b)) (E.emb k) false).run P w= .ok ((f k).getD z) w:=by
 obtain⟨es,clock,h1,⟨h2,h3⟩|⟨v,j,h2,h3⟩⟩:=h.find hK k
 ·simp[Instr.lookup,run_underlying hT,MapKept.run_getObj_map h1,MapKept.run_checkKey hK (E.key k),h3,hz,Result.andThen,h2]
 simp[Instr.lookup,run_underlying hT,MapKept.run_getObj_map h1,MapKept.run_checkKey hK (E.key k),h3,Result.andThen,h2]
theorem ah0.put [DecidableEq κ]{P:Program}{T K El:TypeId}(h:ah0 E w b f)(hT:P.underlying T=some (.map K El))(hK:P.underlying K=some E.d)(k: κ)(v:Value)(hn:f k=none):
  ∃w',(Instr.mapUpdate T (.map (some b)) (E.emb k) v).run P w= .ok () w'/\ah0 E w' b (fun t=>if t=k then some v else f t)/\w.grownBy w' (some b):=by
 obtain⟨es0,afp,g1,g2⟩:=h.find hK k;obtain⟨es,clock,kv,h1,h2,h3⟩:=h;rw[h1] at g1;injection g1 with g1
 injection g1 with g1 g1'
 subst g1 g1';rcases g2 with⟨_,g3⟩|⟨v',j,g3,_⟩
 ·refine⟨{w with heap:=w.heap.setIfInBounds b (.map (es.push ⟨E.emb k,v,clock⟩) (clock+1))},?_,⟨es.push ⟨E.emb k,v,clock⟩,clock+1,kv++[(k,v)],(heap_set h1).1,?_,?_⟩,⟨rfl,rfl,rfl,by simp,fun i hi hne=>(heap_set h1).2 i (fun e=>hne (by rw[e]))⟩⟩
  ·simp[Instr.mapUpdate,run_underlying hT,MapKept.run_getObj_map h1,MapKept.run_checkKey hK (E.key k),g3,MapKept.run_setObj_map _ h1,Result.andThen]
  ·simp[h2]
  intro t u;rw[akq,akm,alb];show((if t=k then some v else f t)=some u) ↔ _;by_cases ht:t=k
  ·subst ht;rw[if_pos rfl];constructor
   ·intro e;injection e with e;exact .inr ⟨rfl,e.symm⟩
   rintro(e|⟨_,rfl⟩)
   ·rw[(h3 t u).2 e] at hn;cases hn
   rfl
  rw[if_neg ht,h3];simp[ht]
 rw[hn] at g3;cases g3
end
end
section
structure PS where
 f:Fnt
 unit:Bool
 cls:List (B×List Int)
def f0:Fnt:=⟨0,[],[],[],[],[],[],[],[]⟩
def ps0:PS:=⟨f0,false,[]⟩
abbrev Gl:=List (B×Nat)
def aP:Nat->List (List B)->Gl
 |_,[]=>[]
 |n,l::ls=>
  match l with
  |w::r=>if w=dM then(match r with|v::_=>if nameB v then [(v,n)] else []|[]=>[])++aP (n+1) ls else aP n ls
  |[]=>aP n ls
theorem PR (n:Nat)(L:List (List B)):aP n ([]::L)=aP n L:=rfl
def wO (n:Nat)(r:List B):Gl:=match r with|v::_=>if nameB v then [(v,n)] else []|[]=>[]
theorem iP (n:Nat)(w:B)(r:List B)(L:List (List B)):aP n ((w::r)::L)=if w=dM then wO n r++aP (n+1) L else aP n L:=by rw[aP.eq_def];cases r<;>rfl
def aG (e:Int)(t:B):Int:=if e=0/\uf t=false then 21 else e
def bg (e:Int)(t:B):Int:=if e=0/\nameB t=false then 23 else e
def jB (gl:Gl)(e:Int)(t:B):Int:=if e=0/\(gl.lookup t).isNone=true then 23 else e
def fF (gl:Gl)(t:B):Int:=((gl.lookup t).getD 0:Nat)
def fB (e:Int)(l:List B):Int:=l.foldl aG e
def rO (gl:Gl)(e:Int)(l:List B):Int:=l.foldl (jB gl) e
def cO (c:UInt8)(t:B):B:=t.takeWhile (· !=c)
def dI (c:UInt8)(t:B):B:=(t.dropWhile (· !=c)).drop 1
def qP (t:B):Int:=if t∈opNames then(opNames.findIdx (· ==t):Int)+1 else 0
def iR (l:List B)(t:B):Int:=if t∈l then(l.findIdx (· ==t):Int)+1 else 0
def qR (e:Int)(t:B):Int:=if t.contains 58 then aG (if e=0/\qP (cO 58 t)=0 then 23 else e) (dI 58 t) else if e=0/\qP (cO 58 t)=0 then 23 else e
def jH (t:B):Ins:=⟨qP (cO 58 t),if t.contains 58 then aA (dI 58 t) else 0⟩
def uZ (l:List B):Bool:=l.all (fun t=>t.count 58<=1)
def lu (t:B):Bool:=t.count 44==1 && (!t.contains 42||t.idxOf 42==t.length - 1)
def dU (t:B):B:=if t.getLast? =some 42 then t.dropLast else t
def vw (e:Int)(t:B):Int:=aG (aG e (cO 44 (dU t))) (dI 44 (dU t))
def pX (t:B):Pt:=⟨aA (cO 44 (dU t)),aA (dI 44 (dU t)),t.getLast? !=some 42⟩
def wH (l:List B):Bool:=l.all (fun t=>t.count 58==1)
def lQ (e:Int)(t:B):Int:=aG (aG e (cO 58 t)) (dI 58 t)
def jI (t:B):Call:=⟨aA (cO 58 t),aA (dI 58 t)⟩
def dQ:Bool->List B->List (List B)->List B->Option (List (List B))
 |op,_,told,[]=>if op then none else some told
 |op,row,told,w::r=>
  if w=[91] then(if op then none else dQ true [] told r)
  else if w=[93] then(if op then dQ false [] (told++[row]) r else none)
  else if op then dQ true (row++[w]) told r
  else dQ false [] (told++[[w]]) r
def eG (ws:List B):Option (List (List B)):=dQ false [] [] ws
def mr (gl:Gl)(cls:List (B×List Int))(t:B):Except Int (List Int):=
 match t with
 |64::r=>match cls.lookup r with|some c=> .ok c|none=> .error 23
 |_=>match gl.lookup t with|some n=> .ok [(n:Int)]|none=> .error 23
def kz (gl:Gl)(cls:List (B×List Int)):List Int->List B->Except Int (List Int)
 |acc,[]=> .ok acc
 |acc,t::r=>match mr gl cls t with
  | .error e=> .error e
  | .ok c=>if 1000<(acc++c).length then .error 2 else kz gl cls (acc++c) r
def iV (gl:Gl)(cls:List (B×List Int)):List (List B)->Except Int (List (List Int))
 |[]=> .ok []
 |l::r=>match kz gl cls [] l with
  | .error e=> .error e
  | .ok x=>match iV gl cls r with| .error e=> .error e| .ok xs=> .ok (x::xs)
def kW (n:Int):List Int->List Int
 |[]=>[n]
 |x::r=>if n<x then n::x::r else if n=x then x::r else x::kW n r
def setOf (l:List Int):List Int:=l.foldr kW []
abbrev Ans:=Except Int PS
def fin (e:Int)(s:PS):Ans:=if e=0 then .ok s else .error e
def lM (s:PS)(l:List B):Ans:=
 match l with
 |[t]=>if aG 0 t≠0 then .error (aG 0 t) else if s.unit then .error 24 else .ok {s with unit:=true,f:= {s.f with unit:=aA t}}
 |_=> .error 22
def qZ (s:PS)(l:List B):Ans:=
 match l with
 |[n,a,b,c]=>fin (aG (aG (aG (bg 0 n) a) b) c) {s with f:= {s.f with ahQ:=s.f.ahQ++[⟨n,aA a,aA b,aA c⟩]}}
 |_=> .error 22
def bT:List Int->List aiH
 |a::b::c::r=>⟨a,b,c⟩::bT r
 |_=>[]
def kU (s:PS)(l:List B):Ans:=if l.length % 3≠0 then .error 22 else fin (fB 0 l) {s with f:= {s.f with regions:=s.f.regions++[⟨bT (l.map aA)⟩]}}
def zX (s:PS)(l:List B):Ans:=fin (fB 0 l) {s with f:= {s.f with cvt:=s.f.cvt++l.map aA}}
def qW (s:PS)(l:List B):Ans:=if uZ l=false then .error 22 else fin (l.foldl qR 0) {s with f:= {s.f with funcs:=s.f.funcs++[l.map jH]}}
def iZ (gl:Gl)(s:PS)(l:List B):Ans:=
 match l with
 |[]=> .error 22
 |n::r=>match eG r with
  |some [row]=>if bg 0 n≠0 then .error (bg 0 n) else match kz gl s.cls [] row with
   | .error e=> .error e
   | .ok g=>if(s.cls.lookup n).isSome then .error 24 else .ok {s with cls:=s.cls++[(n,g)]}
  |_=> .error 22
def gq (gl:Gl)(s:PS)(l:List B):Ans:=
 match l with
 |n::a::r=>if r=[]\/r=[iH] then
   (if aG (bg 0 n) a≠0 then .error (aG (bg 0 n) a) else if fF gl n≠s.f.ahO.length then .error 24
   else .ok {s with f:= {s.f with ahO:=s.f.ahO++[⟨n,aA a,!r.isEmpty,[],[],[],[],[],[]⟩]}})
  else .error 22
 |_=> .error 22
def nP (s:PS)(h:ahR->ahR):PS:= {s with f:= {s.f with ahO:=s.f.ahO.dropLast++(s.f.ahO.getLast?.map h).toList}}
def gK (s:PS)(l:List B):Ans:=
 if s.f.ahO=[] then .error 22 else if l=[]\/l.all lu=false then .error 22
 else fin (l.foldl vw 0) (nP s fun g=> {g with points:=g.points++l.map pX,ends:=g.ends++[((g.points.length+l.length:Nat):Int) - 1]})
def ou (gl:Gl)(s:PS)(l:List B):Ans:=
 if s.f.ahO=[] then .error 22 else
 match l with
 |[n,x,y]=>fin (aG (aG (jB gl 0 n) x) y) (nP s fun g=> {g with parts:=g.parts++[⟨fF gl n,aA x,aA y⟩]})
 |_=> .error 22
def iJ (s:PS)(l:List B):Ans:=
 if s.f.ahO=[] then .error 22 else
 match l with
 |[n,c,x,y]=>if iR anchorNames n=0 then .error 22 else fin (fB 0 [c,x,y]) (nP s fun g=> {g with anchors:=g.anchors++[⟨iR anchorNames n,aA c,aA x,aA y⟩]})
 |_=> .error 22
def lC (s:PS)(l:List B):Ans:=
 if s.f.ahO=[] then .error 22 else
 match l with
 |[r,p,x,y]=>fin (fB 0 [r,p,x,y]) (nP s fun g=> {g with deltas:=g.deltas++[⟨aA r,aA p,aA x,aA y⟩]})
 |_=> .error 22
def oz (s:PS)(l:List B):Ans:=
 if s.f.ahO=[] then .error 22 else if uZ l=false then .error 22
 else fin (l.foldl qR 0) (nP s fun g=> {g with hint:=g.hint++l.map jH})
def qO (gl:Gl)(s:PS)(l:List B):Ans:=
 match l with
 |[c,n]=>fin (jB gl (aG 0 c) n) {s with f:= {s.f with chars:=s.f.chars++[⟨aA c,fF gl n⟩]}}
 |_=> .error 22
def kK (s:PS)(l:List B):Ans:=
 match l with
 |n::r=>fin (fB (bg 0 n) r) {s with f:= {s.f with features:=s.f.features++[⟨n,r.map aA⟩]}}
 |[]=> .error 22
def fV (s:PS)(l:List B):Ans:=
 match l with
 |k::r=>if r=[]\/r=[eP] then(if iR az k=0 then .error 22 else .ok {s with f:= {s.f with ahP:=s.f.ahP++[⟨iR az k,!r.isEmpty,[]⟩]}}) else .error 22
 |[]=> .error 22
def fQ:Nat->List B->List (List B)->List B->Option (List (List B))
 |n,cur,told,[]=>if n=3 then some (told++[cur]) else none
 |n,cur,told,w::r=>
  if w≠[47]/\w≠[62] then fQ n (cur++[w]) told r
  else if(n<2/\w=[47])\/(n=2/\w=[62]) then fQ (n+1) [] (told++[cur]) r else none
def oP (l:List B):Option (List (List B)):=fQ 0 [] [] l
def dY (kind:Int)(l:List B):Bool:=if kind=4 then wH l else if kind=6 then l.length==1 else if kind=7\/kind=8 then l.length==0 else true
def jC (s:PS)(h:Lookup->Lookup):PS:= {s with f:= {s.f with ahP:=s.f.ahP.dropLast++(s.f.ahP.getLast?.map h).toList}}
def dZ (written names:List Int):Except Int (List Int):=
 if ¬written.Nodup then .error 24 else if names.length≠written.length then .error 22
 else .ok ((setOf written).map (fun g=>names.getD (written.idxOf g) 0))
def ed (gl:Gl)(s:PS)(l:List B):Ans:=
 match s.f.ahP.getLast? with
 |none=> .error 22
 |some lk=>match oP l with
  |some [p0,p1,p2,p3]=>match eG p0,eG p1,eG p2 with
   |some w0,some w1,some w2=>
    if(lk.kind=1\/lk.kind=5)/\w1.length≠1 then .error 22 else if dY lk.kind p3=false then .error 22 else
    match iV gl s.cls w0 with
    | .error e=> .error e
    | .ok b=>match iV gl s.cls w1 with
     | .error e=> .error e
     | .ok i=>match iV gl s.cls w2 with
      | .error e=> .error e
      | .ok a=>
       let plain:=lk.kind=1\/lk.kind=2\/lk.kind=3\/lk.kind=5
       let e:=if plain then rO gl 0 p3 else if lk.kind=4 then p3.foldl lQ 0 else if lk.kind=6 then fB 0 p3 else 0
       if e≠0 then .error e else
       let out:=if plain then p3.map (fF gl) else []
       let r:aii:=⟨b.map setOf,i.map setOf,a.map setOf,out,if lk.kind=4 then p3.map jI else [],if lk.kind=6 then aA (p3.headD []) else 0⟩
       if lk.kind=1\/lk.kind=5 then(match dZ (i.headD []) out with
        | .error e=> .error e
        | .ok o=> .ok (jC s fun lk=> {lk with rules:=lk.rules++[{r with out:=o}]}))
       else .ok (jC s fun lk=> {lk with rules:=lk.rules++[r]})
   |_,_,_=> .error 22
  |_=> .error 22
def stmt (gl:Gl)(s:PS)(l:List B):Ans:=
 match l with
 |[]=> .error 22
 |w::r=>
  if w=jK then lM s r else if w=oW then qZ s r else if w=iM then kU s r else if w=kF then zX s r
  else if w=mX then qW s r else if w=sH then iZ gl s r else if w=dM then gq gl s r else if w=eX then gK s r
  else if w=mY then ou gl s r else if w=jd then iJ s r else if w=kC then lC s r else if w=kP then oz s r
  else if w=pq then qO gl s r else if w=fH then fV s r else if w=dF then ed gl s r else if w=iw then kK s r
  else .error 22
def stmts (gl:Gl):PS->List (Int×List B)->Except (Int×Int) PS
 |s,[]=> .ok s
 |s,(n,l)::r=>match stmt gl s l with| .error e=> .error (n,e)| .ok s'=>stmts gl s' r
def linesT (src:B):List (Int×List B):=(fJ src).map (fun l=>((l.head?.map (·.1)).getD 0,l.map (·.2.2)))
def jv (src:B):Except (Int×Int) Fnt:=(stmts (aP 0 ((linesT src).map (·.2))) ps0 (linesT src)).map (·.f)
end
section
open Go.RowKit
def df:Bool->List P3->List (List P3)->List P3->Option (List (List P3))
 |op,_,told,[]=>if op then none else some told
 |op,row,told,w::r=>
  if w.2.2=[91] then(if op then none else df true [] told r)
  else if w.2.2=[93] then(if op then df false [] (told++[row]) r else none)
  else if op then df true (row++[w]) told r
  else df false [] (told++[[w]]) r
def iU (ws:List P3):Option (List (List P3)):=df false [] [] ws
theorem go_open (told:List (List P3))(w:P3)(r:List P3)(h:w.2.2=[91]):df false [] told (w::r)=df true [] told r:=by rw[df,if_pos h];simp
theorem NY (row:List P3)(told:List (List P3))(w:P3)(r:List P3)(h:w.2.2=[91]):df true row told (w::r)=none:=by rw[df,if_pos h];simp
theorem XW (row:List P3)(told:List (List P3))(w:P3)(r:List P3)(h:w.2.2=[93]):df true row told (w::r)=df false [] (told++[row]) r:=by rw[df,if_neg (by rw[h];decide),if_pos h];simp
theorem Lu (told:List (List P3))(w:P3)(r:List P3)(h:w.2.2=[93]):df false [] told (w::r)=none:=by rw[df,if_neg (by rw[h];decide),if_pos h];simp
theorem go_in (row:List P3)(told:List (List P3))(w:P3)(r:List P3)(h1:w.2.2≠[91])(h2:w.2.2≠[93]):df true row told (w::r)=df true (row++[w]) told r:=by rw[df,if_neg h1,if_neg h2];simp
theorem Xb (told:List (List P3))(w:P3)(r:List P3)(h1:w.2.2≠[91])(h2:w.2.2≠[93]):df false [] told (w::r)=df false [] (told++[[w]]) r:=by rw[df,if_neg h1,if_neg h2];simp
theorem uh (ws:List P3)(k:Nat)(w:P3)(h:ws[k]? =some w):ws.drop k=w::ws.drop (k+1):=by obtain⟨hk,hg⟩:=akn.1 h;rw[List.drop_eq_getElem_cons hk,hg]
def gJ (t tr:TypeId)(w:World)(ws:List P3)(e:Ending)(w':World):Prop:=
 match iU ws with
 |none=>e= .returned (.tuple #[.slice none 0 0,.bool false])/\Below w.heap.size w w'
 |some rows=>∃v,e= .returned (.tuple #[v,.bool true])/\uq t tr w w' rows v
theorem vX {t tr:TypeId}{w:World}{ws:List P3}{w':World}(h:iU ws=none)(hb:Below w.heap.size w w'):gJ t tr w ws (.returned (.tuple #[.slice none 0 0,.bool false])) w':=by unfold gJ;rw[h];exact⟨rfl,hb⟩
def pG (t tr:TypeId)(w:World)(ws:List P3)(k:Nat)(v4:Value)(wr:World):Prop:=∃told hs,hs.length<=k/\df false [] told (ws.drop k)=iU ws/\wr.ownsRow w.heap.size tr 1 v4 hs.length hs/\RowsIn t wr hs told/\Below w.heap.size w wr
def uU (t tr:TypeId)(w:World)(ws:List P3)(k:Nat)(v4 v5:Value)(wr:World):Prop:=
 ∃told hs row Wo,hs.length<=k/\row.length<=k/\df true row told (ws.drop k)=iU ws/\Wo.ownsRow w.heap.size tr 1 v4 hs.length hs/\RowsIn t Wo hs told/\Below w.heap.size w Wo/\
  Below Wo.heap.size Wo wr/\wr.ownsRow Wo.heap.size t 3 v5 row.length (dA row)
theorem Gs (t tr:TypeId)(w:World)(ws:List P3)(v4:Value)(wr:World)(h:wr.ownsRow w.heap.size tr 1 v4 0 [])(hb:Below w.heap.size w wr):pG t tr w ws 0 v4 wr:=⟨[],[],by simp,by simp[iU],h,RowsIn.nil _ _,hb⟩
theorem LZ {t tr:TypeId}{w:World}{ws:List P3}{k n c:Nat}{A:Option Addr}{wr:World}(h:pG t tr w ws k (.slice A n c) wr)(hk:ws.length<=k):gJ t tr w ws (.returned (.tuple #[.slice A n c,.bool true])) wr:=by obtain⟨told,hs,-,h2,h3,h4,h5⟩:=h;rw[akU hk,df] at h2;obtain⟨A',c',e,-⟩:=Rd.ail h3;simp only[alh] at e;obtain⟨rfl,rfl,rfl⟩:=e;have hl:hs.length=told.length:=h4.1;unfold gJ;rw[<-h2];refine⟨_,rfl,A,c,hs,by rw[hl],?_,h4,h5⟩;rw[<-hl];exact jf h3
theorem ML {t tr:TypeId}{w:World}{ws:List P3}{k:Nat}{v4 v5:Value}{wr:World}(h:uU t tr w ws k v4 v5 wr)(hk:ws.length<=k):iU ws=none/\Below w.heap.size w wr:=by obtain⟨told,hs,row,Wo,-,-,h3,h4,h5,h6,h7,h8⟩:=h;rw[akU hk,df] at h3;exact⟨by rw[<-h3];rfl,h6.trans (h7.mono h6.size)⟩
theorem Jj {t tr:TypeId}{w:World}{ws:List P3}{k:Nat}{v4 v5:Value}{wr W1:World}(h:pG t tr w ws k v4 wr){p:P3}(hp:ws[k]? =some p)(h91:p.2.2=[91])(hb:Below wr.heap.size wr W1)(W2:World)(h5:W2.ownsRow W1.heap.size t 3 v5 0 [])(hb2:Below W1.heap.size W1 W2):uU t tr w ws (k+1) v4 v5 W2:=by obtain⟨told,hs,h1,h2,h3,h4,h6⟩:=h;refine⟨told,hs,[],W1,by omega,by simp,?_,own_below h3 hb,h4.below hb,h6.trans (hb.mono h6.size),hb2,h5⟩;rw[<-h2,uh ws k p hp,go_open _ _ _ h91]
theorem JP {t tr:TypeId}{w:World}{ws:List P3}{k:Nat}{v4:Value}{wr W1:World}(h:pG t tr w ws k v4 wr){p:P3}(hp:ws[k]? =some p)(lW:p.2.2=[93])(hb:Below wr.heap.size wr W1):gJ t tr w ws (.returned (.tuple #[.slice none 0 0,.bool false])) W1:=by obtain⟨told,hs,h1,h2,h3,h4,h6⟩:=h;refine vX ?_ (h6.trans (hb.mono h6.size));rw[<-h2,uh ws k p hp,Lu _ _ _ lW]
theorem JM {t tr:TypeId}{w:World}{ws:List P3}{k:Nat}{v4 v5:Value}{wr W1:World}(h:uU t tr w ws k v4 v5 wr){p:P3}(hp:ws[k]? =some p)(h91:p.2.2=[91])(hb:Below wr.heap.size wr W1):gJ t tr w ws (.returned (.tuple #[.slice none 0 0,.bool false])) W1:=by obtain⟨told,hs,row,Wo,h1,h2,h3,h4,h5,h6,h7,h8⟩:=h;have s1:=h6.size;have s2:=h7.size;refine vX ?_ ((h6.trans (h7.mono s1)).trans (hb.mono (by omega)));rw[<-h3,uh ws k p hp,NY _ _ _ _ h91]
theorem NE {t tr:TypeId}{w:World}{ws:List P3}{k:Nat}{v4 v5 v6:Value}{wr W1 W2:World}{told:List (List P3)}{hs:List Value}{row:List P3}{Wo:World}(h1:hs.length<=k)(h2:row.length<=k)(h3:df true row told (ws.drop k)=iU ws)(h4:Wo.ownsRow w.heap.size tr 1 v4 hs.length hs)(h5:RowsIn t Wo hs told)(h6:Below w.heap.size w Wo)
  (h7:Below Wo.heap.size Wo wr) (h8:wr.ownsRow Wo.heap.size t 3 v5 row.length (dA row)) {p:P3} (hp:ws[k]? =some p) (h91:p.2.2≠[91]) (lW:p.2.2≠[93]) (hb:Below wr.heap.size wr W1) (hown:W2.ownsRow Wo.heap.size t 3 v6 (row.length+1) (dA row++c3 p)) (hg:W1.grownBy W2 v5.ownBlock):uU t tr w ws (k+1) v4 v6 W2:=by
 refine⟨told,hs,row++[p],Wo,by omega,by simp;omega,?_,h4,h5,h6,?_,?_⟩
 ·rw[<-h3,uh ws k p hp,go_in _ _ _ _ h91 lW]
 ·have s2:=h7.size;have s3:=hb.size;exact(h7.trans (hb.mono s2)).grown hg (by omega) (fun g e=>(h8.lt g e).1)
 rw[xY,la];simpa [dA] using hown
theorem F8 {t tr:TypeId}{w:World}{ws:List P3}{k n5 c5:Nat}{A5:Option Addr}{v4 v6:Value}{wr W1 W2:World}{told:List (List P3)}{hs:List Value}{row:List P3}{Wo:World}(h1:hs.length<=k)(h3:df true row told (ws.drop k)=iU ws)(h4:Wo.ownsRow w.heap.size tr 1 v4 hs.length hs)(h5:RowsIn t Wo hs told)(h6:Below w.heap.size w Wo)
  (h7:Below Wo.heap.size Wo wr) (h8:wr.ownsRow Wo.heap.size t 3 (.slice A5 n5 c5) row.length (dA row)) {p:P3} (hp:ws[k]? =some p) (lW:p.2.2=[93]) (hb:Below wr.heap.size wr W1) (hown:W2.ownsRow w.heap.size tr 1 v6 (hs.length+1) (hs++[.slice A5 n5 c5])) (hg:W1.grownBy W2 v4.ownBlock) (hne:t≠tr):pG t tr w ws (k+1) v6 W2:=by
 have s1:=h6.size;have s2:=h7.size;have s3:=hb.size;have hn:n5=row.length:=by obtain⟨A',c',e,-⟩:=Rd.ail h8;simp only[alh] at e;exact e.2.1
 subst hn;have ho:Below Wo.heap.size Wo W1:=h7.trans (hb.mono s2);have r1:RowsIn t W1 (hs++[.slice A5 row.length c5]) (told++[row]):=(h5.below ho).snoc (jf (own_below h8 hb)) (xu h8);refine⟨told++[row],hs++[.slice A5 row.length c5],by simp;omega,?_,by simpa using hown,?_,?_⟩
 ·rw[<-h3,uh ws k p hp,XW _ _ _ _ lW]
 ·exact r1.grown (own_below h4 ho) hg hne
 exact(h6.trans (ho.mono s1)).grown hg (by omega) (fun g e=>(h4.lt g e).1)
theorem Gn {t tr:TypeId}{w:World}{ws:List P3}{k c5:Nat}{A5:Option Addr}{v4 v6:Value}{wr W1 W2:World}{told:List (List P3)}{hs:List Value}(h1:hs.length<=k)(h2:df false [] told (ws.drop k)=iU ws)(h3:wr.ownsRow w.heap.size tr 1 v4 hs.length hs)(h4:RowsIn t wr hs told)(h6:Below w.heap.size w wr)
  {p:P3} (hp:ws[k]? =some p) (h91:p.2.2≠[91]) (lW:p.2.2≠[93]) (hb:Below wr.heap.size wr W1) (hr:RdT W1 t A5 1 3 (dA [p])) (h15:1<=c5) (hown:W2.ownsRow w.heap.size tr 1 v6 (hs.length+1) (hs++[.slice A5 1 c5])) (hg:W1.grownBy W2 v4.ownBlock) (hne:t≠tr):pG t tr w ws (k+1) v6 W2:=by
 have s1:=h6.size;have s3:=hb.size;have r1:RowsIn t W1 (hs++[.slice A5 1 c5]) (told++[[p]]):=(h4.below hb).snoc hr h15;refine⟨told++[[p]],hs++[.slice A5 1 c5],by simp;omega,?_,by simpa using hown,?_,?_⟩
 ·rw[<-h2,uh ws k p hp,Xb _ _ _ h91 lW]
 ·exact r1.grown (own_below h3 hb) hg hne
 exact(h6.trans (hb.mono s1)).grown hg (by omega) (fun g e=>(h3.lt g e).1)
theorem RdT.new (w:World)(cs:Array Value)(t:TypeId)(n size:Nat)(h:cs.size=n*size):RdT (w.alloc (.cells cs t)) t (some ⟨w.heap.size,0,none⟩) n size cs.toList:=⟨by simpa using h,fun _=>⟨_,0,cs,rfl,Bk.new w t cs,fun j u hu=>by simpa using hu⟩⟩
theorem kD (w:World)(s:ByteArray)(k:Nat):Below w.heap.size w (w.iter s k):=(akl _ _).alloc (nr _) _
theorem xQ (w:World)(s:B):Calls Tryz.prog 72 #[.string ⟨s.toArray⟩] w fun e w'=>e= .returned (.bool (nameB s))/\Below w.heap.size w w':=by
 by_cases hl:s.length<1\/16<s.length
 ·have hf:=hd0 (SX s hl);go_enter Tryz.func72,Tryz.ntmps72
  rcases hl with hl|hl
  ·go_wp2;go_ret
   exact⟨by rw[hf.out];rfl,akl _ _⟩
  go_wp2;go_ret
  exact⟨by rw[hf.out];rfl,akl _ _⟩
 have h1:1<=s.length:=by omega
 have h2:s.length<=16:=by omega
 clear hl;go_enter Tryz.func72,Tryz.ntmps72
 go_wp2;go_loopw [3] (fun _ wr=>∃k:Nat,wr=w.iter ⟨s.toArray⟩ k/\k<=s.length/\∀j c,j<k->s[j]? =some c->nameAt j c=true) (fun _ wr=>s.length - wr.iterPos w.heap.size)
 case atStart=>exact⟨0,rfl,by omega,by omega⟩
 case round=>
  obtain⟨k,rfl,hk,hall⟩:=hrel;by_cases hlt:k<s.length
  ·obtain⟨c,hc⟩:∃c,s[k]? =some c:=⟨_,ako hlt⟩
   have hb:=byte_at s k c hc hlt;by_cases ha:c.toNat<128
   ·have hnx:∀ty,(Instr.next (.pointer (some ⟨w.heap.size,0,none⟩)) true ty).run Tryz.prog (w.iter ⟨s.toArray⟩ k)=_:=fun ty=>run_next_ascii w ⟨s.toArray⟩ k ty hlt (by rw[hb];exact ha)
    rw[hb] at hnx;have hend:Hid (nameAt k c=true->(∃k':Nat,w.iter ⟨s.toArray⟩ (k+1)=w.iter ⟨s.toArray⟩ k'/\k'<=s.length/\∀j c,j<k'->s[j]? =some c->nameAt j c=true)/\s.length - (w.iter ⟨s.toArray⟩ (k+1)).iterPos w.heap.size<s.length - (w.iter ⟨s.toArray⟩ k).iterPos w.heap.size):=by
     intro hn;refine⟨⟨k+1,rfl,by omega,fun j d hj hd=> ?_⟩,by simp;omega⟩;by_cases hjk:j=k
     ·subst hjk;rw[hc] at hd;cases hd;exact hn
     exact hall j d (by omega) hd
    have hno:=hd0 (DX s k c hc);clear hc hall hb;go_wp2
    all_goals first
     |(refine hend.out ((nZ k c).2 ?_);simp only[beq_iff_eq,beq_eq_false_iff_ne,ne_eq] at*;omega)
     |(go_ret;refine⟨?_,kD _ _ _⟩;rw[hno.out (by rw[<-Bool.not_eq_true,nZ];simp only[beq_iff_eq,beq_eq_false_iff_ne,ne_eq] at*;omega)];rfl)
     |trace_state
   obtain⟨hd1,-⟩:=decode_high ⟨s.toArray⟩ k hlt (by rw[hb];omega);have hd2:=decode_le ⟨s.toArray⟩ k;have hnx:∀ty,(Instr.next (.pointer (some ⟨w.heap.size,0,none⟩)) true ty).run Tryz.prog (w.iter ⟨s.toArray⟩ k)=_:=fun ty=>run_next_any w ⟨s.toArray⟩ k ty hlt
   have hno:=hd0 (DX s k c hc (Nj (by omega)));clear hc hall hb;generalize Utf8.decode ⟨s.toArray⟩ k=D at*
   obtain⟨r,wd⟩:=D;simp only at hd1 hd2 hnx;go_wp2
   all_goals first
    |(exfalso;simp only[beq_iff_eq,beq_eq_false_iff_ne,ne_eq] at*;omega)
    |(go_ret;exact⟨by rw[hno.out];rfl,kD _ _ _⟩)
    |trace_state
  obtain rfl:k=s.length:=by omega
  have hf:=hd0 ((zu s hall).trans (decide_eq_true ⟨h1,h2⟩));have hnx:∀ty,(Instr.next (.pointer (some ⟨w.heap.size,0,none⟩)) true ty).run Tryz.prog (w.iter ⟨s.toArray⟩ s.length)=_:=fun ty=>run_next_end w ⟨s.toArray⟩ s.length ty hlt
  clear hall;go_wp2;go_ret
  exact⟨by rw[hf.out];rfl,kD _ _ _⟩
end
end Go.Proofs.YtkijckccfookeaaGreatDoor
