/- Lemmas. -/
import Derived.Test.YtkijckccfookeaaGreatDoorU02
set_option linter.unusedVariables false
set_option linter.unusedSimpArgs false
set_option maxRecDepth 100000
set_option maxHeartbeats 32000000
namespace Go.Proofs.YtkijckccfookeaaGreatDoor
section
open Go.RowKit
def I64 (z:Int):Prop:= -9223372036854775808<=z/\z<=9223372036854775807
theorem I64.small {z:Int}(h1: -1000000000<=z)(h2:z<=1000000000):I64 z:=⟨by omega,by omega⟩
def akL:Rel Int:=fun _ _ cs x=>cs=[.int .i64 x]/\I64 x
theorem akL.ok:akL.Ok:=⟨fun h _=>h,fun h _=>h⟩
theorem Sl.int {w:World}{S:Bs}{A:Option Addr}{xs:List Int}(h:Sl akL 1 w S A xs){k:Nat}(hk:k<xs.length):∃b o x,A=some ⟨b,o,none⟩/\S b/\Hid (xs[k]? =some x)/\w.cell? ⟨b,o+k,none⟩=some (.int .i64 x)/\I64 x:=by obtain⟨b,o,x,cs,e,hb,hx,hr,-,hc⟩:=h.get hk;obtain⟨rfl,r0⟩:=hr;simp only[Nat.mul_one] at hc;exact⟨b,o,x,e,hb,hx,hc 0 _ rfl,r0⟩
def al5:Rel B:=fun _ _ cs x=>cs=[.string ⟨x.toArray⟩]
theorem al5.ok:al5.Ok:=⟨fun h _=>h,fun h _=>h⟩
theorem Sl.str {w:World}{S:Bs}{A:Option Addr}{xs:List B}(h:Sl al5 1 w S A xs){k:Nat}(hk:k<xs.length):∃b o x,A=some ⟨b,o,none⟩/\S b/\Hid (xs[k]? =some x)/\w.cell? ⟨b,o+k,none⟩=some (.string ⟨x.toArray⟩):=by obtain⟨b,o,x,cs,e,hb,hx,hr,-,hc⟩:=h.get hk;obtain rfl:=hr;simp only[Nat.mul_one] at hc;exact⟨b,o,x,e,hb,hx,hc 0 _ rfl⟩
def akM:Rel (List Int):=SlV akL 1
theorem akM.ok:akM.Ok:=SlV.ok akL.ok
theorem Sl.row {w:World}{S:Bs}{A:Option Addr}{xs:List (List Int)}(h:Sl akM 1 w S A xs){k:Nat}(hk:k<xs.length):∃b o x A1 c1,A=some ⟨b,o,none⟩/\S b/\Hid (xs[k]? =some x)/\w.cell? ⟨b,o+k,none⟩=some (.slice A1 x.length c1)/\Sl akL 1 w S A1 x:=by obtain⟨b,o,x,cs,e,hb,hx,hr,-,hc⟩:=h.get hk;obtain⟨A1,c1,rfl,h1⟩:=hr;simp only[Nat.mul_one] at hc;exact⟨b,o,x,A1,c1,e,hb,hx,hc 0 _ rfl,h1⟩
def akZ:Rel Ins:=fun _ _ cs x=>cs=[.int .i64 x.op,.int .i64 x.a]/\I64 x.op/\I64 x.a
theorem akZ.ok:akZ.Ok:=⟨fun h _=>h,fun h _=>h⟩
theorem Sl.ins {w:World}{S:Bs}{A:Option Addr}{xs:List Ins}(h:Sl akZ 2 w S A xs){k:Nat}(hk:k<xs.length):∃b o x,A=some ⟨b,o,none⟩/\S b/\Hid (xs[k]? =some x)/\w.cell? ⟨b,o+k*2,none⟩=some (.int .i64 x.op)/\w.cell? ⟨b,o+k*2+1,none⟩=some (.int .i64 x.a)/\I64 x.op/\I64 x.a:=by obtain⟨b,o,x,cs,e,hb,hx,hr,-,hc⟩:=h.get hk;obtain⟨rfl,r0,r1⟩:=hr;exact⟨b,o,x,e,hb,hx,hc 0 _ rfl,hc 1 _ rfl,r0,r1⟩
def ak6:Rel (List Ins):=SlV akZ 2
theorem ak6.ok:ak6.Ok:=SlV.ok akZ.ok
theorem Sl.code {w:World}{S:Bs}{A:Option Addr}{xs:List (List Ins)}(h:Sl ak6 1 w S A xs){k:Nat}(hk:k<xs.length):∃b o x A1 c1,A=some ⟨b,o,none⟩/\S b/\Hid (xs[k]? =some x)/\w.cell? ⟨b,o+k,none⟩=some (.slice A1 x.length c1)/\Sl akZ 2 w S A1 x:=by obtain⟨b,o,x,cs,e,hb,hx,hr,-,hc⟩:=h.get hk;obtain⟨A1,c1,rfl,h1⟩:=hr;simp only[Nat.mul_one] at hc;exact⟨b,o,x,A1,c1,e,hb,hx,hc 0 _ rfl,h1⟩
def PtR:Rel Pt:=fun _ _ cs x=>cs=[.int .i64 x.x,.int .i64 x.y,.bool x.on]/\I64 x.x/\I64 x.y
theorem PtR.ok:PtR.Ok:=⟨fun h _=>h,fun h _=>h⟩
theorem Sl.pt {w:World}{S:Bs}{A:Option Addr}{xs:List Pt}(h:Sl PtR 3 w S A xs){k:Nat}(hk:k<xs.length):∃b o x,A=some ⟨b,o,none⟩/\S b/\Hid (xs[k]? =some x)/\w.cell? ⟨b,o+k*3,none⟩=some (.int .i64 x.x)/\w.cell? ⟨b,o+k*3+1,none⟩=some (.int .i64 x.y)/\w.cell? ⟨b,o+k*3+2,none⟩=some (.bool x.on)/\I64 x.x/\I64 x.y:=by obtain⟨b,o,x,cs,e,hb,hx,hr,-,hc⟩:=h.get hk;obtain⟨rfl,r0,r1⟩:=hr;exact⟨b,o,x,e,hb,hx,hc 0 _ rfl,hc 1 _ rfl,hc 2 _ rfl,r0,r1⟩
def ala:Rel Part:=fun _ _ cs x=>cs=[.int .i64 x.akY,.int .i64 x.x,.int .i64 x.y]/\I64 x.akY/\I64 x.x/\I64 x.y
theorem ala.ok:ala.Ok:=⟨fun h _=>h,fun h _=>h⟩
theorem Sl.part {w:World}{S:Bs}{A:Option Addr}{xs:List Part}(h:Sl ala 3 w S A xs){k:Nat}(hk:k<xs.length):∃b o x,A=some ⟨b,o,none⟩/\S b/\Hid (xs[k]? =some x)/\w.cell? ⟨b,o+k*3,none⟩=some (.int .i64 x.akY)/\w.cell? ⟨b,o+k*3+1,none⟩=some (.int .i64 x.x)/\w.cell? ⟨b,o+k*3+2,none⟩=some (.int .i64 x.y)/\I64 x.akY/\I64 x.x/\I64 x.y:=by obtain⟨b,o,x,cs,e,hb,hx,hr,-,hc⟩:=h.get hk;obtain⟨rfl,r0,r1,r2⟩:=hr;exact⟨b,o,x,e,hb,hx,hc 0 _ rfl,hc 1 _ rfl,hc 2 _ rfl,r0,r1,r2⟩
def akX:Rel ak7:=fun _ _ cs x=>cs=[.int .i64 x.kind,.int .i64 x.cls,.int .i64 x.x,.int .i64 x.y]/\I64 x.kind/\I64 x.cls/\I64 x.x/\I64 x.y
theorem akX.ok:akX.Ok:=⟨fun h _=>h,fun h _=>h⟩
theorem Sl.anchor {w:World}{S:Bs}{A:Option Addr}{xs:List ak7}(h:Sl akX 4 w S A xs){k:Nat}(hk:k<xs.length):∃b o x,A=some ⟨b,o,none⟩/\S b/\Hid (xs[k]? =some x)/\w.cell? ⟨b,o+k*4,none⟩=some (.int .i64 x.kind)/\w.cell? ⟨b,o+k*4+1,none⟩=some (.int .i64 x.cls)/\w.cell? ⟨b,o+k*4+2,none⟩=some (.int .i64 x.x)/\w.cell? ⟨b,o+k*4+3,none⟩=some (.int .i64 x.y)/\I64 x.kind/\I64 x.cls/\I64 x.x/\I64 x.y:=by obtain⟨b,o,x,cs,e,hb,hx,hr,-,hc⟩:=h.get hk;obtain⟨rfl,r0,r1,r2,r3⟩:=hr;exact⟨b,o,x,e,hb,hx,hc 0 _ rfl,hc 1 _ rfl,hc 2 _ rfl,hc 3 _ rfl,r0,r1,r2,r3⟩
def ak2:Rel Delta:=fun _ _ cs x=>cs=[.int .i64 x.region,.int .i64 x.point,.int .i64 x.x,.int .i64 x.y]/\I64 x.region/\I64 x.point/\I64 x.x/\I64 x.y
theorem ak2.ok:ak2.Ok:=⟨fun h _=>h,fun h _=>h⟩
theorem Sl.delta {w:World}{S:Bs}{A:Option Addr}{xs:List Delta}(h:Sl ak2 4 w S A xs){k:Nat}(hk:k<xs.length):∃b o x,A=some ⟨b,o,none⟩/\S b/\Hid (xs[k]? =some x)/\w.cell? ⟨b,o+k*4,none⟩=some (.int .i64 x.region)/\w.cell? ⟨b,o+k*4+1,none⟩=some (.int .i64 x.point)/\w.cell? ⟨b,o+k*4+2,none⟩=some (.int .i64 x.x)/\w.cell? ⟨b,o+k*4+3,none⟩=some (.int .i64 x.y)/\I64 x.region/\I64 x.point/\I64 x.x/\I64 x.y:=by obtain⟨b,o,x,cs,e,hb,hx,hr,-,hc⟩:=h.get hk;obtain⟨rfl,r0,r1,r2,r3⟩:=hr;exact⟨b,o,x,e,hb,hx,hc 0 _ rfl,hc 1 _ rfl,hc 2 _ rfl,hc 3 _ rfl,r0,r1,r2,r3⟩
def akQ:Rel akN:=fun w S cs x=>∃A3 c3 A4 c4 A5 c5 A6 c6 A7 c7 A8 c8,cs=[.string ⟨x.name.toArray⟩,.int .i64 x.advance,.bool x.mark,.slice A3 x.points.length c3,.slice A4 x.ends.length c4,.slice A5 x.parts.length c5,.slice A6 x.anchors.length c6,.slice A7 x.deltas.length c7,.slice A8 x.hint.length c8]/\I64 x.advance/\Sl PtR 3 w S A3 x.points/\Sl akL 1 w S A4 x.ends/\Sl ala 3 w S A5 x.parts/\Sl akX 4 w S A6 x.anchors/\Sl ak2 4 w S A7 x.deltas/\Sl akZ 2 w S A8 x.hint
theorem akQ.ok:akQ.Ok:=⟨fun⟨A3,c3,A4,c4,A5,c5,A6,c6,A7,c7,A8,c8,e,r1,h3,h4,h5,h6,h7,h8⟩ hs=>⟨A3,c3,A4,c4,A5,c5,A6,c6,A7,c7,A8,c8,e,r1,h3.keep PtR.ok hs,h4.keep akL.ok hs,h5.keep ala.ok hs,h6.keep akX.ok hs,h7.keep ak2.ok hs,h8.keep akZ.ok hs⟩,fun⟨A3,c3,A4,c4,A5,c5,A6,c6,A7,c7,A8,c8,e,r1,h3,h4,h5,h6,h7,h8⟩ hs=>⟨A3,c3,A4,c4,A5,c5,A6,c6,A7,c7,A8,c8,e,r1,h3.mono PtR.ok hs,h4.mono akL.ok hs,h5.mono ala.ok hs,h6.mono akX.ok hs,h7.mono ak2.ok hs,h8.mono akZ.ok hs⟩⟩
theorem Sl.akY {w:World}{S:Bs}{A:Option Addr}{xs:List akN}(h:Sl akQ 9 w S A xs){k:Nat}(hk:k<xs.length):∃b o x A3 c3 A4 c4 A5 c5 A6 c6 A7 c7 A8 c8,A=some ⟨b,o,none⟩/\S b/\Hid (xs[k]? =some x)/\w.cell? ⟨b,o+k*9,none⟩=some (.string ⟨x.name.toArray⟩)/\w.cell? ⟨b,o+k*9+1,none⟩=some (.int .i64 x.advance)/\w.cell? ⟨b,o+k*9+2,none⟩=some (.bool x.mark)/\w.cell? ⟨b,o+k*9+3,none⟩=some (.slice A3 x.points.length c3)/\w.cell? ⟨b,o+k*9+4,none⟩=some (.slice A4 x.ends.length c4)/\w.cell? ⟨b,o+k*9+5,none⟩=some (.slice A5 x.parts.length c5)/\w.cell? ⟨b,o+k*9+6,none⟩=some (.slice A6 x.anchors.length c6)/\w.cell? ⟨b,o+k*9+7,none⟩=some (.slice A7 x.deltas.length c7)/\w.cell? ⟨b,o+k*9+8,none⟩=some (.slice A8 x.hint.length c8)/\I64 x.advance/\Sl PtR 3 w S A3 x.points/\Sl akL 1 w S A4 x.ends/\Sl ala 3 w S A5 x.parts/\Sl akX 4 w S A6 x.anchors/\Sl ak2 4 w S A7 x.deltas/\Sl akZ 2 w S A8 x.hint:=by obtain⟨b,o,x,cs,e,hb,hx,hr,-,hc⟩:=h.get hk;obtain⟨A3,c3,A4,c4,A5,c5,A6,c6,A7,c7,A8,c8,rfl,r1,h3,h4,h5,h6,h7,h8⟩:=hr;exact⟨b,o,x,A3,c3,A4,c4,A5,c5,A6,c6,A7,c7,A8,c8,e,hb,hx,hc 0 _ rfl,hc 1 _ rfl,hc 2 _ rfl,hc 3 _ rfl,hc 4 _ rfl,hc 5 _ rfl,hc 6 _ rfl,hc 7 _ rfl,hc 8 _ rfl,r1,h3,h4,h5,h6,h7,h8⟩
def alm:Rel Chr:=fun _ _ cs x=>cs=[.int .i64 x.rune,.int .i64 x.akY]/\I64 x.rune/\I64 x.akY
theorem alm.ok:alm.Ok:=⟨fun h _=>h,fun h _=>h⟩
theorem Sl.chr {w:World}{S:Bs}{A:Option Addr}{xs:List Chr}(h:Sl alm 2 w S A xs){k:Nat}(hk:k<xs.length):∃b o x,A=some ⟨b,o,none⟩/\S b/\Hid (xs[k]? =some x)/\w.cell? ⟨b,o+k*2,none⟩=some (.int .i64 x.rune)/\w.cell? ⟨b,o+k*2+1,none⟩=some (.int .i64 x.akY)/\I64 x.rune/\I64 x.akY:=by obtain⟨b,o,x,cs,e,hb,hx,hr,-,hc⟩:=h.get hk;obtain⟨rfl,r0,r1⟩:=hr;exact⟨b,o,x,e,hb,hx,hc 0 _ rfl,hc 1 _ rfl,r0,r1⟩
def alu:Rel Call:=fun _ _ cs x=>cs=[.int .i64 x.at',.int .i64 x.lookup]/\I64 x.at'/\I64 x.lookup
theorem alu.ok:alu.Ok:=⟨fun h _=>h,fun h _=>h⟩
theorem Sl.call {w:World}{S:Bs}{A:Option Addr}{xs:List Call}(h:Sl alu 2 w S A xs){k:Nat}(hk:k<xs.length):∃b o x,A=some ⟨b,o,none⟩/\S b/\Hid (xs[k]? =some x)/\w.cell? ⟨b,o+k*2,none⟩=some (.int .i64 x.at')/\w.cell? ⟨b,o+k*2+1,none⟩=some (.int .i64 x.lookup)/\I64 x.at'/\I64 x.lookup:=by obtain⟨b,o,x,cs,e,hb,hx,hr,-,hc⟩:=h.get hk;obtain⟨rfl,r0,r1⟩:=hr;exact⟨b,o,x,e,hb,hx,hc 0 _ rfl,hc 1 _ rfl,r0,r1⟩
def ak3:Rel als:=fun w S cs x=>∃A0 c0 A1 c1 A2 c2 A3 c3 A4 c4,cs=[.slice A0 x.back.length c0,.slice A1 x.in'.length c1,.slice A2 x.ahead.length c2,.slice A3 x.out.length c3,.slice A4 x.calls.length c4,.int .i64 x.x]/\I64 x.x/\Sl akM 1 w S A0 x.back/\Sl akM 1 w S A1 x.in'/\Sl akM 1 w S A2 x.ahead/\Sl akL 1 w S A3 x.out/\Sl alu 2 w S A4 x.calls
theorem ak3.ok:ak3.Ok:=⟨fun⟨A0,c0,A1,c1,A2,c2,A3,c3,A4,c4,e,r5,h0,h1,h2,h3,h4⟩ hs=>⟨A0,c0,A1,c1,A2,c2,A3,c3,A4,c4,e,r5,h0.keep akM.ok hs,h1.keep akM.ok hs,h2.keep akM.ok hs,h3.keep akL.ok hs,h4.keep alu.ok hs⟩,fun⟨A0,c0,A1,c1,A2,c2,A3,c3,A4,c4,e,r5,h0,h1,h2,h3,h4⟩ hs=>⟨A0,c0,A1,c1,A2,c2,A3,c3,A4,c4,e,r5,h0.mono akM.ok hs,h1.mono akM.ok hs,h2.mono akM.ok hs,h3.mono akL.ok hs,h4.mono alu.ok hs⟩⟩
theorem Sl.rule {w:World}{S:Bs}{A:Option Addr}{xs:List als}(h:Sl ak3 6 w S A xs){k:Nat}(hk:k<xs.length):∃b o x A0 c0 A1 c1 A2 c2 A3 c3 A4 c4,A=some ⟨b,o,none⟩/\S b/\Hid (xs[k]? =some x)/\w.cell? ⟨b,o+k*6,none⟩=some (.slice A0 x.back.length c0)/\w.cell? ⟨b,o+k*6+1,none⟩=some (.slice A1 x.in'.length c1)/\w.cell? ⟨b,o+k*6+2,none⟩=some (.slice A2 x.ahead.length c2)/\w.cell? ⟨b,o+k*6+3,none⟩=some (.slice A3 x.out.length c3)/\w.cell? ⟨b,o+k*6+4,none⟩=some (.slice A4 x.calls.length c4)/\w.cell? ⟨b,o+k*6+5,none⟩=some (.int .i64 x.x)/\I64 x.x/\Sl akM 1 w S A0 x.back/\Sl akM 1 w S A1 x.in'/\Sl akM 1 w S A2 x.ahead/\Sl akL 1 w S A3 x.out/\Sl alu 2 w S A4 x.calls:=by obtain⟨b,o,x,cs,e,hb,hx,hr,-,hc⟩:=h.get hk;obtain⟨A0,c0,A1,c1,A2,c2,A3,c3,A4,c4,rfl,r5,h0,h1,h2,h3,h4⟩:=hr;exact⟨b,o,x,A0,c0,A1,c1,A2,c2,A3,c3,A4,c4,e,hb,hx,hc 0 _ rfl,hc 1 _ rfl,hc 2 _ rfl,hc 3 _ rfl,hc 4 _ rfl,hc 5 _ rfl,r5,h0,h1,h2,h3,h4⟩
def akS:Rel Lookup:=fun w S cs x=>∃A2 c2,cs=[.int .i64 x.kind,.bool x.alr,.slice A2 x.rules.length c2]/\I64 x.kind/\Sl ak3 6 w S A2 x.rules
theorem akS.ok:akS.Ok:=⟨fun⟨A2,c2,e,r0,h2⟩ hs=>⟨A2,c2,e,r0,h2.keep ak3.ok hs⟩,fun⟨A2,c2,e,r0,h2⟩ hs=>⟨A2,c2,e,r0,h2.mono ak3.ok hs⟩⟩
theorem Sl.lookup {w:World}{S:Bs}{A:Option Addr}{xs:List Lookup}(h:Sl akS 3 w S A xs){k:Nat}(hk:k<xs.length):∃b o x A2 c2,A=some ⟨b,o,none⟩/\S b/\Hid (xs[k]? =some x)/\w.cell? ⟨b,o+k*3,none⟩=some (.int .i64 x.kind)/\w.cell? ⟨b,o+k*3+1,none⟩=some (.bool x.alr)/\w.cell? ⟨b,o+k*3+2,none⟩=some (.slice A2 x.rules.length c2)/\I64 x.kind/\Sl ak3 6 w S A2 x.rules:=by obtain⟨b,o,x,cs,e,hb,hx,hr,-,hc⟩:=h.get hk;obtain⟨A2,c2,rfl,r0,h2⟩:=hr;exact⟨b,o,x,A2,c2,e,hb,hx,hc 0 _ rfl,hc 1 _ rfl,hc 2 _ rfl,r0,h2⟩
def akR:Rel alo:=fun w S cs x=>∃A1 c1,cs=[.string ⟨x.name.toArray⟩,.slice A1 x.akK.length c1]/\Sl akL 1 w S A1 x.akK
theorem akR.ok:akR.Ok:=⟨fun⟨A1,c1,e,h1⟩ hs=>⟨A1,c1,e,h1.keep akL.ok hs⟩,fun⟨A1,c1,e,h1⟩ hs=>⟨A1,c1,e,h1.mono akL.ok hs⟩⟩
theorem Sl.amq {w:World}{S:Bs}{A:Option Addr}{xs:List alo}(h:Sl akR 2 w S A xs){k:Nat}(hk:k<xs.length):∃b o x A1 c1,A=some ⟨b,o,none⟩/\S b/\Hid (xs[k]? =some x)/\w.cell? ⟨b,o+k*2,none⟩=some (.string ⟨x.name.toArray⟩)/\w.cell? ⟨b,o+k*2+1,none⟩=some (.slice A1 x.akK.length c1)/\Sl akL 1 w S A1 x.akK:=by obtain⟨b,o,x,cs,e,hb,hx,hr,-,hc⟩:=h.get hk;obtain⟨A1,c1,rfl,h1⟩:=hr;exact⟨b,o,x,A1,c1,e,hb,hx,hc 0 _ rfl,hc 1 _ rfl,h1⟩
def ale:Rel alG:=fun _ _ cs x=>cs=[.string ⟨x.name.toArray⟩,.int .i64 x.min',.int .i64 x.alI,.int .i64 x.max']/\I64 x.min'/\I64 x.alI/\I64 x.max'
theorem ale.ok:ale.Ok:=⟨fun h _=>h,fun h _=>h⟩
theorem Sl.am8 {w:World}{S:Bs}{A:Option Addr}{xs:List alG}(h:Sl ale 4 w S A xs){k:Nat}(hk:k<xs.length):∃b o x,A=some ⟨b,o,none⟩/\S b/\Hid (xs[k]? =some x)/\w.cell? ⟨b,o+k*4,none⟩=some (.string ⟨x.name.toArray⟩)/\w.cell? ⟨b,o+k*4+1,none⟩=some (.int .i64 x.min')/\w.cell? ⟨b,o+k*4+2,none⟩=some (.int .i64 x.alI)/\w.cell? ⟨b,o+k*4+3,none⟩=some (.int .i64 x.max')/\I64 x.min'/\I64 x.alI/\I64 x.max':=by obtain⟨b,o,x,cs,e,hb,hx,hr,-,hc⟩:=h.get hk;obtain⟨rfl,r1,r2,r3⟩:=hr;exact⟨b,o,x,e,hb,hx,hc 0 _ rfl,hc 1 _ rfl,hc 2 _ rfl,hc 3 _ rfl,r1,r2,r3⟩
def alM:Rel alv:=fun _ _ cs x=>cs=[.int .i64 x.start,.int .i64 x.peak,.int .i64 x.stop]/\I64 x.start/\I64 x.peak/\I64 x.stop
theorem alM.ok:alM.Ok:=⟨fun h _=>h,fun h _=>h⟩
theorem Sl.amW {w:World}{S:Bs}{A:Option Addr}{xs:List alv}(h:Sl alM 3 w S A xs){k:Nat}(hk:k<xs.length):∃b o x,A=some ⟨b,o,none⟩/\S b/\Hid (xs[k]? =some x)/\w.cell? ⟨b,o+k*3,none⟩=some (.int .i64 x.start)/\w.cell? ⟨b,o+k*3+1,none⟩=some (.int .i64 x.peak)/\w.cell? ⟨b,o+k*3+2,none⟩=some (.int .i64 x.stop)/\I64 x.start/\I64 x.peak/\I64 x.stop:=by obtain⟨b,o,x,cs,e,hb,hx,hr,-,hc⟩:=h.get hk;obtain⟨rfl,r0,r1,r2⟩:=hr;exact⟨b,o,x,e,hb,hx,hc 0 _ rfl,hc 1 _ rfl,hc 2 _ rfl,r0,r1,r2⟩
def akU:Rel Region:=fun w S cs x=>∃A0 c0,cs=[.slice A0 x.ak1.length c0]/\Sl alM 3 w S A0 x.ak1
theorem akU.ok:akU.Ok:=⟨fun⟨A0,c0,e,h0⟩ hs=>⟨A0,c0,e,h0.keep alM.ok hs⟩,fun⟨A0,c0,e,h0⟩ hs=>⟨A0,c0,e,h0.mono alM.ok hs⟩⟩
theorem Sl.region {w:World}{S:Bs}{A:Option Addr}{xs:List Region}(h:Sl akU 1 w S A xs){k:Nat}(hk:k<xs.length):∃b o x A0 c0,A=some ⟨b,o,none⟩/\S b/\Hid (xs[k]? =some x)/\w.cell? ⟨b,o+k,none⟩=some (.slice A0 x.ak1.length c0)/\Sl alM 3 w S A0 x.ak1:=by obtain⟨b,o,x,cs,e,hb,hx,hr,-,hc⟩:=h.get hk;obtain⟨A0,c0,rfl,h0⟩:=hr;simp only[Nat.mul_one] at hc;exact⟨b,o,x,A0,c0,e,hb,hx,hc 0 _ rfl,h0⟩
def aln:Rel Fnt:=fun w S cs x=>∃A1 c1 A2 c2 A3 c3 A4 c4 A5 c5 A6 c6 A7 c7 A8 c8,cs=[.int .i64 x.unit,.slice A1 x.akJ.length c1,.slice A2 x.chars.length c2,.slice A3 x.akK.length c3,.slice A4 x.features.length c4,.slice A5 x.akP.length c5,.slice A6 x.regions.length c6,.slice A7 x.funcs.length c7,.slice A8 x.cvt.length c8]/\I64 x.unit/\Sl akQ 9 w S A1 x.akJ/\Sl alm 2 w S A2 x.chars/\Sl akS 3 w S A3 x.akK/\Sl akR 2 w S A4 x.features/\Sl ale 4 w S A5 x.akP/\Sl akU 1 w S A6 x.regions/\Sl ak6 1 w S A7 x.funcs/\Sl akL 1 w S A8 x.cvt
theorem aln.ok:aln.Ok:=⟨fun⟨A1,c1,A2,c2,A3,c3,A4,c4,A5,c5,A6,c6,A7,c7,A8,c8,e,r0,h1,h2,h3,h4,h5,h6,h7,h8⟩ hs=>⟨A1,c1,A2,c2,A3,c3,A4,c4,A5,c5,A6,c6,A7,c7,A8,c8,e,r0,h1.keep akQ.ok hs,h2.keep alm.ok hs,h3.keep akS.ok hs,h4.keep akR.ok hs,h5.keep ale.ok hs,h6.keep akU.ok hs,h7.keep ak6.ok hs,h8.keep akL.ok hs⟩,fun⟨A1,c1,A2,c2,A3,c3,A4,c4,A5,c5,A6,c6,A7,c7,A8,c8,e,r0,h1,h2,h3,h4,h5,h6,h7,h8⟩ hs=>⟨A1,c1,A2,c2,A3,c3,A4,c4,A5,c5,A6,c6,A7,c7,A8,c8,e,r0,h1.mono akQ.ok hs,h2.mono alm.ok hs,h3.mono akS.ok hs,h4.mono akR.ok hs,h5.mono ale.ok hs,h6.mono akU.ok hs,h7.mono ak6.ok hs,h8.mono akL.ok hs⟩⟩
theorem Sl.fnt {w:World}{S:Bs}{A:Option Addr}{xs:List Fnt}(h:Sl aln 9 w S A xs){k:Nat}(hk:k<xs.length):∃b o x A1 c1 A2 c2 A3 c3 A4 c4 A5 c5 A6 c6 A7 c7 A8 c8,A=some ⟨b,o,none⟩/\S b/\Hid (xs[k]? =some x)/\w.cell? ⟨b,o+k*9,none⟩=some (.int .i64 x.unit)/\w.cell? ⟨b,o+k*9+1,none⟩=some (.slice A1 x.akJ.length c1)/\w.cell? ⟨b,o+k*9+2,none⟩=some (.slice A2 x.chars.length c2)/\w.cell? ⟨b,o+k*9+3,none⟩=some (.slice A3 x.akK.length c3)/\w.cell? ⟨b,o+k*9+4,none⟩=some (.slice A4 x.features.length c4)/\w.cell? ⟨b,o+k*9+5,none⟩=some (.slice A5 x.akP.length c5)/\w.cell? ⟨b,o+k*9+6,none⟩=some (.slice A6 x.regions.length c6)/\w.cell? ⟨b,o+k*9+7,none⟩=some (.slice A7 x.funcs.length c7)/\w.cell? ⟨b,o+k*9+8,none⟩=some (.slice A8 x.cvt.length c8)/\I64 x.unit/\Sl akQ 9 w S A1 x.akJ/\Sl alm 2 w S A2 x.chars/\Sl akS 3 w S A3 x.akK/\Sl akR 2 w S A4 x.features/\Sl ale 4 w S A5 x.akP/\Sl akU 1 w S A6 x.regions/\Sl ak6 1 w S A7 x.funcs/\Sl akL 1 w S A8 x.cvt:=by obtain⟨b,o,x,cs,e,hb,hx,hr,-,hc⟩:=h.get hk;obtain⟨A1,c1,A2,c2,A3,c3,A4,c4,A5,c5,A6,c6,A7,c7,A8,c8,rfl,r0,h1,h2,h3,h4,h5,h6,h7,h8⟩:=hr;exact⟨b,o,x,A1,c1,A2,c2,A3,c3,A4,c4,A5,c5,A6,c6,A7,c7,A8,c8,e,hb,hx,hc 0 _ rfl,hc 1 _ rfl,hc 2 _ rfl,hc 3 _ rfl,hc 4 _ rfl,hc 5 _ rfl,hc 6 _ rfl,hc 7 _ rfl,hc 8 _ rfl,r0,h1,h2,h3,h4,h5,h6,h7,h8⟩
end
section
open Go.RowKit Go.MapKept
structure Emb (κ :Type) where
 emb: κ ->Value
 d:TypeDesc
 inj:∀ {a b},emb a=emb b->a=b
 key:∀a,IsKey d (emb a)
def mi:Emb B where
 emb a:= .string ⟨a.toArray⟩
 d:= .string
 inj h:=by
  injection h with h
  injection h with h
  exact List.toArray_inj h
 key a:=trivial
def JA:Emb Int where
 emb a:= .int .i64 a
 d:= .int .i64
 inj h:=by injection h
 key a:=rfl
def akW {κ :Type}(E:Emb κ)(w:World)(b:Nat)(f: κ ->Option Value):Prop:=
 ∃es clock,∃kv:List (κ ×Value),w.heap[b]? =some (.map es clock)/\es.toList.map (fun e=>(e.key,e.val))=kv.map (fun x: κ ×Value=>(E.emb x.1,x.2))/\
  ∀k v,f k=some v ↔ (k,v)∈kv
section
variable {κ :Type} {E:Emb κ} {w w':World} {b:Nat} {f: κ ->Option Value}
theorem akW.lt (h:akW E w b f):b<w.heap.size:=by obtain⟨es,clock,kv,h1,_⟩:=h;exact(anx.1 h1).1
theorem akW.keep (h:akW E w b f)(hk:w'.heap[b]? =w.heap[b]?):akW E w' b f:=by obtain⟨es,clock,kv,h1,h2⟩:=h;exact⟨es,clock,kv,hk.trans h1,h2⟩
theorem akW.below (h:akW E w b f)(hb:Below w.heap.size w w'):akW E w' b f:=h.keep (hb.block b h.lt)
theorem akW.grown (h:akW E w b f){row:Option Nat}(hg:w.grownBy w' row)(hne:some b≠row):akW E w' b f:=h.keep (hg.block b h.lt hne)
theorem akW.drewN (h:akW E w b f)(n:Nat):akW E (w.drewN n) b f:=h
theorem akW.drew (h:akW E w b f):akW E w.drew b f:=h
theorem akW.isMap (h:akW E w b f):∃es clock,w.heap[b]? =some (.map es clock):=by obtain⟨es,clock,kv,h1,h2⟩:=h;exact⟨es,clock,h1⟩
theorem akW.new (E:Emb κ)(w:World):akW E (w.alloc (.map #[] 0)) w.heap.size (fun _=>none):=⟨#[],0,[],heap_alloc_new w _,rfl,by simp⟩
theorem akW.congr (h:akW E w b f){g: κ ->Option Value}(hg:∀k,g k=f k):akW E w b g:=by obtain⟨es,clock,kv,h1,h2,h3⟩:=h;exact⟨es,clock,kv,h1,h2,fun k v=>by rw[hg];exact h3 k v⟩
theorem akW.find {P:Program}{K:TypeId}(h:akW E w b f)(hK:P.underlying K=some E.d)(k: κ):
  ∃es clock,w.heap[b]? =some (.map es clock)/\((f k=none/\(Instr.findKey K (E.emb k) es.toList).run P w= .ok none w)\/∃v j,f k=some v/\(Instr.findKey K (E.emb k) es.toList).run P w= .ok (some (j,v)) w):=by
 obtain⟨es,clock,kv,h1,h2,h3⟩:=h;refine⟨es,clock,h1,?_⟩;have hks:∀x∈es.toList,IsKey E.d x.key:=by
  intro x hx;have:(x.key,x.val)∈es.toList.map (fun e=>(e.key,e.val)):=anZ.2 ⟨x,hx,rfl⟩;rw[h2,anZ] at this;obtain⟨y,_,hy⟩:=this;injection hy with hy1 hy2
  rw[<-hy1];exact E.key _
 rcases findNow_spec (d:=E.d) (E.key k) es.toList 0 hks with⟨g1,g2⟩|⟨j,e,g1,g2,g3⟩
 ·refine .inl ⟨?_,run_findKey hK g1⟩;cases hf:f k with
  |none=>rfl
  |some v=>
   have hm:=(h3 k v).1 hf;have:(E.emb k,v)∈kv.map (fun x: κ ×Value=>(E.emb x.1,x.2)):=anZ.2 ⟨(k,v),hm,rfl⟩;rw[<-h2,anZ] at this;obtain⟨x,hx,hy⟩:=this;injection hy with hy1 hy2
   exact absurd hy1 (g2 x hx)
 refine .inr ⟨e.val,0+j,?_,run_findKey hK g1⟩;have he:e∈es.toList:=anC g2;have:(e.key,e.val)∈es.toList.map (fun e=>(e.key,e.val)):=anZ.2 ⟨e,he,rfl⟩;rw[h2,anZ] at this;obtain⟨y,hy,hy2⟩:=this;injection hy2 with hy3 hy4
 have:y.1=k:=E.inj (hy3.trans g3);rw[h3];rw[<-this,<-hy4];exact hy
theorem akW.al4 {P:Program}{T K El:TypeId}(h:akW E w b f)(hT:P.underlying T=some (.map K El))(hK:P.underlying K=some E.d){z:Value}(hz:(zeroValue El).run P w= .ok z w)(k: κ):
  (Instr.lookup T (.map (some b)) (E.emb k) true).run P w= .ok (.tuple #[(f k).getD z,.bool (f k).isSome]) w:=by
 obtain⟨es,clock,h1,⟨h2,h3⟩|⟨v,j,h2,h3⟩⟩:=h.find hK k
 ·simp[Instr.lookup,run_underlying hT,MapKept.run_getObj_map h1,MapKept.run_checkKey hK (E.key k),h3,hz,Result.andThen,h2]
 simp[Instr.lookup,run_underlying hT,MapKept.run_getObj_map h1,MapKept.run_checkKey hK (E.key k),h3,Result.andThen,h2]
theorem akW.look1 {P:Program}{T K El:TypeId}(h:akW E w b f)(hT:P.underlying T=some (.map K El))(hK:P.underlying K=some E.d){z:Value}(hz:(zeroValue El).run P w= .ok z w)(k: κ):
  (Instr.lookup T (.map (some b)) (E.emb k) false).run P w= .ok ((f k).getD z) w:=by
 obtain⟨es,clock,h1,⟨h2,h3⟩|⟨v,j,h2,h3⟩⟩:=h.find hK k
 ·simp[Instr.lookup,run_underlying hT,MapKept.run_getObj_map h1,MapKept.run_checkKey hK (E.key k),h3,hz,Result.andThen,h2]
 simp[Instr.lookup,run_underlying hT,MapKept.run_getObj_map h1,MapKept.run_checkKey hK (E.key k),h3,Result.andThen,h2]
theorem akW.put [DecidableEq κ]{P:Program}{T K El:TypeId}(h:akW E w b f)(hT:P.underlying T=some (.map K El))(hK:P.underlying K=some E.d)(k: κ)(v:Value)(hn:f k=none):
  ∃w',(Instr.mapUpdate T (.map (some b)) (E.emb k) v).run P w= .ok () w'/\akW E w' b (fun t=>if t=k then some v else f t)/\w.grownBy w' (some b):=by
 obtain⟨es0,aia,g1,g2⟩:=h.find hK k;obtain⟨es,clock,kv,h1,h2,h3⟩:=h;rw[h1] at g1;injection g1 with g1
 injection g1 with g1 g1'
 subst g1 g1';rcases g2 with⟨_,g3⟩|⟨v',j,g3,_⟩
 ·refine⟨{w with heap:=w.heap.setIfInBounds b (.map (es.push ⟨E.emb k,v,clock⟩) (clock+1))},?_,⟨es.push ⟨E.emb k,v,clock⟩,clock+1,kv++[(k,v)],(heap_set h1).1,?_,?_⟩,⟨rfl,rfl,rfl,by simp,fun i hi hne=>(heap_set h1).2 i (fun e=>hne (by rw[e]))⟩⟩
  ·simp[Instr.mapUpdate,run_underlying hT,MapKept.run_getObj_map h1,MapKept.run_checkKey hK (E.key k),g3,MapKept.run_setObj_map _ h1,Result.andThen]
  ·simp[h2]
  intro t u;rw[anz,anu,aoj];show((if t=k then some v else f t)=some u) ↔ _;by_cases ht:t=k
  ·subst ht;rw[if_pos rfl];constructor
   ·intro e;injection e with e;exact .inr ⟨rfl,e.symm⟩
   rintro(e|⟨_,rfl⟩)
   ·rw[(h3 t u).2 e] at hn;cases hn
   rfl
  rw[if_neg ht,h3];simp[ht]
 rw[hn] at g3;cases g3
end
end
section
structure PS where
 f:Fnt
 unit:Bool
 cls:List (B×List Int)
def f0:Fnt:=⟨0,[],[],[],[],[],[],[],[]⟩
def ps0:PS:=⟨f0,false,[]⟩
abbrev Gl:=List (B×Nat)
def bf:Nat->List (List B)->Gl
 |_,[]=>[]
 |n,l::ls=>
  match l with
  |w::r=>if w=dY then(match r with|v::_=>if nameB v then [(v,n)] else []|[]=>[])++bf (n+1) ls else bf n ls
  |[]=>bf n ls
theorem VA (n:Nat)(L:List (List B)):bf n ([]::L)=bf n L:=rfl
def yA (n:Nat)(r:List B):Gl:=match r with|v::_=>if nameB v then [(v,n)] else []|[]=>[]
theorem iY (n:Nat)(w:B)(r:List B)(L:List (List B)):bf n ((w::r)::L)=if w=dY then yA n r++bf (n+1) L else bf n L:=by rw[bf.eq_def];cases r<;>rfl
def aK (e:Int)(t:B):Int:=if e=0/\vK t=false then 21 else e
def bD (e:Int)(t:B):Int:=if e=0/\nameB t=false then 23 else e
def jM (gl:Gl)(e:Int)(t:B):Int:=if e=0/\(gl.lookup t).isNone=true then 23 else e
def fP (gl:Gl)(t:B):Int:=((gl.lookup t).getD 0:Nat)
def fD (e:Int)(l:List B):Int:=l.foldl aK e
def uf (gl:Gl)(e:Int)(l:List B):Int:=l.foldl (jM gl) e
def dh (c:UInt8)(t:B):B:=t.takeWhile (· !=c)
def dM (c:UInt8)(t:B):B:=(t.dropWhile (· !=c)).drop 1
def sJ (t:B):Int:=if t∈opNames then(opNames.findIdx (· ==t):Int)+1 else 0
def jc (l:List B)(t:B):Int:=if t∈l then(l.findIdx (· ==t):Int)+1 else 0
def sQ (e:Int)(t:B):Int:=if t.contains 58 then aK (if e=0/\sJ (dh 58 t)=0 then 23 else e) (dM 58 t) else if e=0/\sJ (dh 58 t)=0 then 23 else e
def jW (t:B):Ins:=⟨sJ (dh 58 t),if t.contains 58 then aI (dM 58 t) else 0⟩
def xW (l:List B):Bool:=l.all (fun t=>t.count 58<=1)
def lL (t:B):Bool:=t.count 44==1 && (!t.contains 42||t.idxOf 42==t.length - 1)
def dX (t:B):B:=if t.getLast? =some 42 then t.dropLast else t
def xZ (e:Int)(t:B):Int:=aK (aK e (dh 44 (dX t))) (dM 44 (dX t))
def qR (t:B):Pt:=⟨aI (dh 44 (dX t)),aI (dM 44 (dX t)),t.getLast? !=some 42⟩
def yt (l:List B):Bool:=l.all (fun t=>t.count 58==1)
def mg (e:Int)(t:B):Int:=aK (aK e (dh 58 t)) (dM 58 t)
def kZ (t:B):Call:=⟨aI (dh 58 t),aI (dM 58 t)⟩
def eQ:Bool->List B->List (List B)->List B->Option (List (List B))
 |op,_,told,[]=>if op then none else some told
 |op,row,told,w::r=>
  if w=[91] then(if op then none else eQ true [] told r)
  else if w=[93] then(if op then eQ false [] (told++[row]) r else none)
  else if op then eQ true (row++[w]) told r
  else eQ false [] (told++[[w]]) r
def eP (ws:List B):Option (List (List B)):=eQ false [] [] ws
def mP (gl:Gl)(cls:List (B×List Int))(t:B):Except Int (List Int):=
 match t with
 |64::r=>match cls.lookup r with|some c=> .ok c|none=> .error 23
 |_=>match gl.lookup t with|some n=> .ok [(n:Int)]|none=> .error 23
def nR (gl:Gl)(cls:List (B×List Int)):List Int->List B->Except Int (List Int)
 |acc,[]=> .ok acc
 |acc,t::r=>match mP gl cls t with
  | .error e=> .error e
  | .ok c=>if 1000<(acc++c).length then .error 2 else nR gl cls (acc++c) r
def kW (gl:Gl)(cls:List (B×List Int)):List (List B)->Except Int (List (List Int))
 |[]=> .ok []
 |l::r=>match nR gl cls [] l with
  | .error e=> .error e
  | .ok x=>match kW gl cls r with| .error e=> .error e| .ok xs=> .ok (x::xs)
def pG (n:Int):List Int->List Int
 |[]=>[n]
 |x::r=>if n<x then n::x::r else if n=x then x::r else x::pG n r
def setOf (l:List Int):List Int:=l.foldr pG []
abbrev Ans:=Except Int PS
def fin (e:Int)(s:PS):Ans:=if e=0 then .ok s else .error e
def qh (s:PS)(l:List B):Ans:=
 match l with
 |[t]=>if aK 0 t≠0 then .error (aK 0 t) else if s.unit then .error 24 else .ok {s with unit:=true,f:= {s.f with unit:=aI t}}
 |_=> .error 22
def xx (s:PS)(l:List B):Ans:=
 match l with
 |[n,a,b,c]=>fin (aK (aK (aK (bD 0 n) a) b) c) {s with f:= {s.f with akP:=s.f.akP++[⟨n,aI a,aI b,aI c⟩]}}
 |_=> .error 22
def dJ:List Int->List alv
 |a::b::c::r=>⟨a,b,c⟩::dJ r
 |_=>[]
def qW (s:PS)(l:List B):Ans:=if l.length % 3≠0 then .error 22 else fin (fD 0 l) {s with f:= {s.f with regions:=s.f.regions++[⟨dJ (l.map aI)⟩]}}
def Oi (s:PS)(l:List B):Ans:=fin (fD 0 l) {s with f:= {s.f with cvt:=s.f.cvt++l.map aI}}
def xA (s:PS)(l:List B):Ans:=if xW l=false then .error 22 else fin (l.foldl sQ 0) {s with f:= {s.f with funcs:=s.f.funcs++[l.map jW]}}
def kR (gl:Gl)(s:PS)(l:List B):Ans:=
 match l with
 |[]=> .error 22
 |n::r=>match eP r with
  |some [row]=>if bD 0 n≠0 then .error (bD 0 n) else match nR gl s.cls [] row with
   | .error e=> .error e
   | .ok g=>if(s.cls.lookup n).isSome then .error 24 else .ok {s with cls:=s.cls++[(n,g)]}
  |_=> .error 22
def iO (gl:Gl)(s:PS)(l:List B):Ans:=
 match l with
 |n::a::r=>if r=[]\/r=[iM] then
   (if aK (bD 0 n) a≠0 then .error (aK (bD 0 n) a) else if fP gl n≠s.f.akJ.length then .error 24
   else .ok {s with f:= {s.f with akJ:=s.f.akJ++[⟨n,aI a,!r.isEmpty,[],[],[],[],[],[]⟩]}})
  else .error 22
 |_=> .error 22
def sV (s:PS)(h:akN->akN):PS:= {s with f:= {s.f with akJ:=s.f.akJ.dropLast++(s.f.akJ.getLast?.map h).toList}}
def jG (s:PS)(l:List B):Ans:=
 if s.f.akJ=[] then .error 22 else if l=[]\/l.all lL=false then .error 22
 else fin (l.foldl xZ 0) (sV s fun g=> {g with points:=g.points++l.map qR,ends:=g.ends++[((g.points.length+l.length:Nat):Int) - 1]})
def uH (gl:Gl)(s:PS)(l:List B):Ans:=
 if s.f.akJ=[] then .error 22 else
 match l with
 |[n,x,y]=>fin (aK (aK (jM gl 0 n) x) y) (sV s fun g=> {g with parts:=g.parts++[⟨fP gl n,aI x,aI y⟩]})
 |_=> .error 22
def kL (s:PS)(l:List B):Ans:=
 if s.f.akJ=[] then .error 22 else
 match l with
 |[n,c,x,y]=>if jc anchorNames n=0 then .error 22 else fin (fD 0 [c,x,y]) (sV s fun g=> {g with anchors:=g.anchors++[⟨jc anchorNames n,aI c,aI x,aI y⟩]})
 |_=> .error 22
def pI (s:PS)(l:List B):Ans:=
 if s.f.akJ=[] then .error 22 else
 match l with
 |[r,p,x,y]=>fin (fD 0 [r,p,x,y]) (sV s fun g=> {g with deltas:=g.deltas++[⟨aI r,aI p,aI x,aI y⟩]})
 |_=> .error 22
def uG (s:PS)(l:List B):Ans:=
 if s.f.akJ=[] then .error 22 else if xW l=false then .error 22
 else fin (l.foldl sQ 0) (sV s fun g=> {g with hint:=g.hint++l.map jW})
def xI (gl:Gl)(s:PS)(l:List B):Ans:=
 match l with
 |[c,n]=>fin (jM gl (aK 0 c) n) {s with f:= {s.f with chars:=s.f.chars++[⟨aI c,fP gl n⟩]}}
 |_=> .error 22
def qF (s:PS)(l:List B):Ans:=
 match l with
 |n::r=>fin (fD (bD 0 n) r) {s with f:= {s.f with features:=s.f.features++[⟨n,r.map aI⟩]}}
 |[]=> .error 22
def iW (s:PS)(l:List B):Ans:=
 match l with
 |k::r=>if r=[]\/r=[eU] then(if jc aG k=0 then .error 22 else .ok {s with f:= {s.f with akK:=s.f.akK++[⟨jc aG k,!r.isEmpty,[]⟩]}}) else .error 22
 |[]=> .error 22
def iQ:Nat->List B->List (List B)->List B->Option (List (List B))
 |n,cur,told,[]=>if n=3 then some (told++[cur]) else none
 |n,cur,told,w::r=>
  if w≠[47]/\w≠[62] then iQ n (cur++[w]) told r
  else if(n<2/\w=[47])\/(n=2/\w=[62]) then iQ (n+1) [] (told++[cur]) r else none
def pM (l:List B):Option (List (List B)):=iQ 0 [] [] l
def eu (kind:Int)(l:List B):Bool:=if kind=4 then yt l else if kind=6 then l.length==1 else if kind=7\/kind=8 then l.length==0 else true
def lV (s:PS)(h:Lookup->Lookup):PS:= {s with f:= {s.f with akK:=s.f.akK.dropLast++(s.f.akK.getLast?.map h).toList}}
def fE (written names:List Int):Except Int (List Int):=
 if ¬written.Nodup then .error 24 else if names.length≠written.length then .error 22
 else .ok ((setOf written).map (fun g=>names.getD (written.idxOf g) 0))
def fF (gl:Gl)(s:PS)(l:List B):Ans:=
 match s.f.akK.getLast? with
 |none=> .error 22
 |some lk=>match pM l with
  |some [p0,p1,p2,p3]=>match eP p0,eP p1,eP p2 with
   |some w0,some w1,some w2=>
    if(lk.kind=1\/lk.kind=5)/\w1.length≠1 then .error 22 else if eu lk.kind p3=false then .error 22 else
    match kW gl s.cls w0 with
    | .error e=> .error e
    | .ok b=>match kW gl s.cls w1 with
     | .error e=> .error e
     | .ok i=>match kW gl s.cls w2 with
      | .error e=> .error e
      | .ok a=>
       let plain:=lk.kind=1\/lk.kind=2\/lk.kind=3\/lk.kind=5
       let e:=if plain then uf gl 0 p3 else if lk.kind=4 then p3.foldl mg 0 else if lk.kind=6 then fD 0 p3 else 0
       if e≠0 then .error e else
       let out:=if plain then p3.map (fP gl) else []
       let r:als:=⟨b.map setOf,i.map setOf,a.map setOf,out,if lk.kind=4 then p3.map kZ else [],if lk.kind=6 then aI (p3.headD []) else 0⟩
       if lk.kind=1\/lk.kind=5 then(match fE (i.headD []) out with
        | .error e=> .error e
        | .ok o=> .ok (lV s fun lk=> {lk with rules:=lk.rules++[{r with out:=o}]}))
       else .ok (lV s fun lk=> {lk with rules:=lk.rules++[r]})
   |_,_,_=> .error 22
  |_=> .error 22
def stmt (gl:Gl)(s:PS)(l:List B):Ans:=
 match l with
 |[]=> .error 22
 |w::r=>
  if w=lI then qh s r else if w=uz then xx s r else if w=jQ then qW s r else if w=mr then Oi s r
  else if w=qo then xA s r else if w=yF then kR gl s r else if w=dY then iO gl s r else if w=fU then jG s r
  else if w=qj then uH gl s r else if w=kM then kL s r else if w=mO then pI s r else if w=nO then uG s r
  else if w=uF then xI gl s r else if w=gX then iW s r else if w=dL then fF gl s r else if w=jC then qF s r
  else .error 22
def stmts (gl:Gl):PS->List (Int×List B)->Except (Int×Int) PS
 |s,[]=> .ok s
 |s,(n,l)::r=>match stmt gl s l with| .error e=> .error (n,e)| .ok s'=>stmts gl s' r
def linesT (src:B):List (Int×List B):=(gB src).map (fun l=>((l.head?.map (·.1)).getD 0,l.map (·.2.2)))
def nZ (src:B):Except (Int×Int) Fnt:=(stmts (bf 0 ((linesT src).map (·.2))) ps0 (linesT src)).map (·.f)
end
section
open Go.RowKit
def dm:Bool->List P3->List (List P3)->List P3->Option (List (List P3))
 |op,_,told,[]=>if op then none else some told
 |op,row,told,w::r=>
  if w.2.2=[91] then(if op then none else dm true [] told r)
  else if w.2.2=[93] then(if op then dm false [] (told++[row]) r else none)
  else if op then dm true (row++[w]) told r
  else dm false [] (told++[[w]]) r
def jb (ws:List P3):Option (List (List P3)):=dm false [] [] ws
theorem go_open (told:List (List P3))(w:P3)(r:List P3)(h:w.2.2=[91]):dm false [] told (w::r)=dm true [] told r:=by rw[dm,if_pos h];simp
theorem Qx (row:List P3)(told:List (List P3))(w:P3)(r:List P3)(h:w.2.2=[91]):dm true row told (w::r)=none:=by rw[dm,if_pos h];simp
theorem aaq (row:List P3)(told:List (List P3))(w:P3)(r:List P3)(h:w.2.2=[93]):dm true row told (w::r)=dm false [] (told++[row]) r:=by rw[dm,if_neg (by rw[h];decide),if_pos h];simp
theorem Nu (told:List (List P3))(w:P3)(r:List P3)(h:w.2.2=[93]):dm false [] told (w::r)=none:=by rw[dm,if_neg (by rw[h];decide),if_pos h];simp
theorem go_in (row:List P3)(told:List (List P3))(w:P3)(r:List P3)(h1:w.2.2≠[91])(h2:w.2.2≠[93]):dm true row told (w::r)=dm true (row++[w]) told r:=by rw[dm,if_neg h1,if_neg h2];simp
theorem Y2 (told:List (List P3))(w:P3)(r:List P3)(h1:w.2.2≠[91])(h2:w.2.2≠[93]):dm false [] told (w::r)=dm false [] (told++[[w]]) r:=by rw[dm,if_neg h1,if_neg h2];simp
theorem vO (ws:List P3)(k:Nat)(w:P3)(h:ws[k]? =some w):ws.drop k=w::ws.drop (k+1):=by obtain⟨hk,hg⟩:=anv.1 h;rw[List.drop_eq_getElem_cons hk,hg]
def gQ (t tr:TypeId)(w:World)(ws:List P3)(e:Ending)(w':World):Prop:=
 match jb ws with
 |none=>e= .returned (.tuple #[.slice none 0 0,.bool false])/\Below w.heap.size w w'
 |some rows=>∃v,e= .returned (.tuple #[v,.bool true])/\wu t tr w w' rows v
theorem yg {t tr:TypeId}{w:World}{ws:List P3}{w':World}(h:jb ws=none)(hb:Below w.heap.size w w'):gQ t tr w ws (.returned (.tuple #[.slice none 0 0,.bool false])) w':=by unfold gQ;rw[h];exact⟨rfl,hb⟩
def qy (t tr:TypeId)(w:World)(ws:List P3)(k:Nat)(v4:Value)(wr:World):Prop:=∃told hs,hs.length<=k/\dm false [] told (ws.drop k)=jb ws/\wr.ownsRow w.heap.size tr 1 v4 hs.length hs/\RowsIn t wr hs told/\Below w.heap.size w wr
def wS (t tr:TypeId)(w:World)(ws:List P3)(k:Nat)(v4 v5:Value)(wr:World):Prop:=
 ∃told hs row Wo,hs.length<=k/\row.length<=k/\dm true row told (ws.drop k)=jb ws/\Wo.ownsRow w.heap.size tr 1 v4 hs.length hs/\RowsIn t Wo hs told/\Below w.heap.size w Wo/\
  Below Wo.heap.size Wo wr/\wr.ownsRow Wo.heap.size t 3 v5 row.length (dD row)
theorem Iq (t tr:TypeId)(w:World)(ws:List P3)(v4:Value)(wr:World)(h:wr.ownsRow w.heap.size tr 1 v4 0 [])(hb:Below w.heap.size w wr):qy t tr w ws 0 v4 wr:=⟨[],[],by simp,by simp[jb],h,RowsIn.nil _ _,hb⟩
theorem OT {t tr:TypeId}{w:World}{ws:List P3}{k n c:Nat}{A:Option Addr}{wr:World}(h:qy t tr w ws k (.slice A n c) wr)(hk:ws.length<=k):gQ t tr w ws (.returned (.tuple #[.slice A n c,.bool true])) wr:=by obtain⟨told,hs,-,h2,h3,h4,h5⟩:=h;rw[an3 hk,dm] at h2;obtain⟨A',c',e,-⟩:=Rd.alj h3;simp only[aon] at e;obtain⟨rfl,rfl,rfl⟩:=e;have hl:hs.length=told.length:=h4.1;unfold gQ;rw[<-h2];refine⟨_,rfl,A,c,hs,by rw[hl],?_,h4,h5⟩;rw[<-hl];exact jl h3
theorem Nc {t tr:TypeId}{w:World}{ws:List P3}{k:Nat}{v4 v5:Value}{wr:World}(h:wS t tr w ws k v4 v5 wr)(hk:ws.length<=k):jb ws=none/\Below w.heap.size w wr:=by obtain⟨told,hs,row,Wo,-,-,h3,h4,h5,h6,h7,h8⟩:=h;rw[an3 hk,dm] at h3;exact⟨by rw[<-h3];rfl,h6.trans (h7.mono h6.size)⟩
theorem KX {t tr:TypeId}{w:World}{ws:List P3}{k:Nat}{v4 v5:Value}{wr W1:World}(h:qy t tr w ws k v4 wr){p:P3}(hp:ws[k]? =some p)(h91:p.2.2=[91])(hb:Below wr.heap.size wr W1)(W2:World)(h5:W2.ownsRow W1.heap.size t 3 v5 0 [])(hb2:Below W1.heap.size W1 W2):wS t tr w ws (k+1) v4 v5 W2:=by obtain⟨told,hs,h1,h2,h3,h4,h6⟩:=h;refine⟨told,hs,[],W1,by omega,by simp,?_,own_below h3 hb,h4.below hb,h6.trans (hb.mono h6.size),hb2,h5⟩;rw[<-h2,vO ws k p hp,go_open _ _ _ h91]
theorem MO {t tr:TypeId}{w:World}{ws:List P3}{k:Nat}{v4:Value}{wr W1:World}(h:qy t tr w ws k v4 wr){p:P3}(hp:ws[k]? =some p)(mV:p.2.2=[93])(hb:Below wr.heap.size wr W1):gQ t tr w ws (.returned (.tuple #[.slice none 0 0,.bool false])) W1:=by obtain⟨told,hs,h1,h2,h3,h4,h6⟩:=h;refine yg ?_ (h6.trans (hb.mono h6.size));rw[<-h2,vO ws k p hp,Nu _ _ _ mV]
theorem MK {t tr:TypeId}{w:World}{ws:List P3}{k:Nat}{v4 v5:Value}{wr W1:World}(h:wS t tr w ws k v4 v5 wr){p:P3}(hp:ws[k]? =some p)(h91:p.2.2=[91])(hb:Below wr.heap.size wr W1):gQ t tr w ws (.returned (.tuple #[.slice none 0 0,.bool false])) W1:=by obtain⟨told,hs,row,Wo,h1,h2,h3,h4,h5,h6,h7,h8⟩:=h;have s1:=h6.size;have s2:=h7.size;refine yg ?_ ((h6.trans (h7.mono s1)).trans (hb.mono (by omega)));rw[<-h3,vO ws k p hp,Qx _ _ _ _ h91]
theorem Qq {t tr:TypeId}{w:World}{ws:List P3}{k:Nat}{v4 v5 v6:Value}{wr W1 W2:World}{told:List (List P3)}{hs:List Value}{row:List P3}{Wo:World}(h1:hs.length<=k)(h2:row.length<=k)(h3:dm true row told (ws.drop k)=jb ws)(h4:Wo.ownsRow w.heap.size tr 1 v4 hs.length hs)(h5:RowsIn t Wo hs told)(h6:Below w.heap.size w Wo)
  (h7:Below Wo.heap.size Wo wr) (h8:wr.ownsRow Wo.heap.size t 3 v5 row.length (dD row)) {p:P3} (hp:ws[k]? =some p) (h91:p.2.2≠[91]) (mV:p.2.2≠[93]) (hb:Below wr.heap.size wr W1) (hown:W2.ownsRow Wo.heap.size t 3 v6 (row.length+1) (dD row++c3 p)) (hg:W1.grownBy W2 v5.ownBlock):wS t tr w ws (k+1) v4 v6 W2:=by
 refine⟨told,hs,row++[p],Wo,by omega,by simp;omega,?_,h4,h5,h6,?_,?_⟩
 ·rw[<-h3,vO ws k p hp,go_in _ _ _ _ h91 mV]
 ·have s2:=h7.size;have s3:=hb.size;exact(h7.trans (hb.mono s2)).grown hg (by omega) (fun g e=>(h8.lt g e).1)
 rw[zB,la];simpa [dD] using hown
theorem IE {t tr:TypeId}{w:World}{ws:List P3}{k n5 c5:Nat}{A5:Option Addr}{v4 v6:Value}{wr W1 W2:World}{told:List (List P3)}{hs:List Value}{row:List P3}{Wo:World}(h1:hs.length<=k)(h3:dm true row told (ws.drop k)=jb ws)(h4:Wo.ownsRow w.heap.size tr 1 v4 hs.length hs)(h5:RowsIn t Wo hs told)(h6:Below w.heap.size w Wo)
  (h7:Below Wo.heap.size Wo wr) (h8:wr.ownsRow Wo.heap.size t 3 (.slice A5 n5 c5) row.length (dD row)) {p:P3} (hp:ws[k]? =some p) (mV:p.2.2=[93]) (hb:Below wr.heap.size wr W1) (hown:W2.ownsRow w.heap.size tr 1 v6 (hs.length+1) (hs++[.slice A5 n5 c5])) (hg:W1.grownBy W2 v4.ownBlock) (hne:t≠tr):qy t tr w ws (k+1) v6 W2:=by
 have s1:=h6.size;have s2:=h7.size;have s3:=hb.size;have hn:n5=row.length:=by obtain⟨A',c',e,-⟩:=Rd.alj h8;simp only[aon] at e;exact e.2.1
 subst hn;have ho:Below Wo.heap.size Wo W1:=h7.trans (hb.mono s2);have r1:RowsIn t W1 (hs++[.slice A5 row.length c5]) (told++[row]):=(h5.below ho).snoc (jl (own_below h8 hb)) (vW h8);refine⟨told++[row],hs++[.slice A5 row.length c5],by simp;omega,?_,by simpa using hown,?_,?_⟩
 ·rw[<-h3,vO ws k p hp,aaq _ _ _ _ mV]
 ·exact r1.grown (own_below h4 ho) hg hne
 exact(h6.trans (ho.mono s1)).grown hg (by omega) (fun g e=>(h4.lt g e).1)
theorem IG {t tr:TypeId}{w:World}{ws:List P3}{k c5:Nat}{A5:Option Addr}{v4 v6:Value}{wr W1 W2:World}{told:List (List P3)}{hs:List Value}(h1:hs.length<=k)(h2:dm false [] told (ws.drop k)=jb ws)(h3:wr.ownsRow w.heap.size tr 1 v4 hs.length hs)(h4:RowsIn t wr hs told)(h6:Below w.heap.size w wr)
  {p:P3} (hp:ws[k]? =some p) (h91:p.2.2≠[91]) (mV:p.2.2≠[93]) (hb:Below wr.heap.size wr W1) (hr:RdT W1 t A5 1 3 (dD [p])) (h15:1<=c5) (hown:W2.ownsRow w.heap.size tr 1 v6 (hs.length+1) (hs++[.slice A5 1 c5])) (hg:W1.grownBy W2 v4.ownBlock) (hne:t≠tr):qy t tr w ws (k+1) v6 W2:=by
 have s1:=h6.size;have s3:=hb.size;have r1:RowsIn t W1 (hs++[.slice A5 1 c5]) (told++[[p]]):=(h4.below hb).snoc hr h15;refine⟨told++[[p]],hs++[.slice A5 1 c5],by simp;omega,?_,by simpa using hown,?_,?_⟩
 ·rw[<-h2,vO ws k p hp,Y2 _ _ _ h91 mV]
 ·exact r1.grown (own_below h3 hb) hg hne
 exact(h6.trans (hb.mono s1)).grown hg (by omega) (fun g e=>(h3.lt g e).1)
theorem RdT.new (w:World)(cs:Array Value)(t:TypeId)(n size:Nat)(h:cs.size=n*size):RdT (w.alloc (.cells cs t)) t (some ⟨w.heap.size,0,none⟩) n size cs.toList:=⟨by simpa using h,fun _=>⟨_,0,cs,rfl,Bk.new w t cs,fun j u hu=>by simpa using hu⟩⟩
theorem lq (w:World)(s:ByteArray)(k:Nat):Below w.heap.size w (w.iter s k):=(ant _ _).alloc (af _) _
theorem zk (w:World)(s:B):Calls Tryz.prog 72 #[.string ⟨s.toArray⟩] w fun e w'=>e= .returned (.bool (nameB s))/\Below w.heap.size w w':=by
 by_cases hl:s.length<1\/16<s.length
 ·have hf:=hd0 (Xa s hl);go_enter Tryz.func72,Tryz.ntmps72
  rcases hl with hl|hl
  ·go_wp2;go_ret
   exact⟨by rw[hf.out];rfl,ant _ _⟩
  go_wp2;go_ret
  exact⟨by rw[hf.out];rfl,ant _ _⟩
 have h1:1<=s.length:=by omega
 have h2:s.length<=16:=by omega
 clear hl;go_enter Tryz.func72,Tryz.ntmps72
 go_wp2;go_loopw [3] (fun _ wr=>∃k:Nat,wr=w.iter ⟨s.toArray⟩ k/\k<=s.length/\∀j c,j<k->s[j]? =some c->nameAt j c=true) (fun _ wr=>s.length - wr.iterPos w.heap.size)
 case atStart=>exact⟨0,rfl,by omega,by omega⟩
 case round=>
  obtain⟨k,rfl,hk,hall⟩:=hrel;by_cases hlt:k<s.length
  ·obtain⟨c,hc⟩:∃c,s[k]? =some c:=⟨_,anw hlt⟩
   have hb:=byte_at s k c hc hlt;by_cases ha:c.toNat<128
   ·have hnx:∀ty,(Instr.next (.pointer (some ⟨w.heap.size,0,none⟩)) true ty).run Tryz.prog (w.iter ⟨s.toArray⟩ k)=_:=fun ty=>run_next_ascii w ⟨s.toArray⟩ k ty hlt (by rw[hb];exact ha)
    rw[hb] at hnx;have hend:Hid (nameAt k c=true->(∃k':Nat,w.iter ⟨s.toArray⟩ (k+1)=w.iter ⟨s.toArray⟩ k'/\k'<=s.length/\∀j c,j<k'->s[j]? =some c->nameAt j c=true)/\s.length - (w.iter ⟨s.toArray⟩ (k+1)).iterPos w.heap.size<s.length - (w.iter ⟨s.toArray⟩ k).iterPos w.heap.size):=by
     intro hn;refine⟨⟨k+1,rfl,by omega,fun j d hj hd=> ?_⟩,by simp;omega⟩;by_cases hjk:j=k
     ·subst hjk;rw[hc] at hd;cases hd;exact hn
     exact hall j d (by omega) hd
    have hno:=hd0 (FB s k c hc);clear hc hall hb;go_wp2
    all_goals first
     |(refine hend.out ((Ai k c).2 ?_);simp only[beq_iff_eq,beq_eq_false_iff_ne,ne_eq] at*;omega)
     |(go_ret;refine⟨?_,lq _ _ _⟩;rw[hno.out (by rw[<-Bool.not_eq_true,Ai];simp only[beq_iff_eq,beq_eq_false_iff_ne,ne_eq] at*;omega)];rfl)
     |trace_state
   obtain⟨hd1,-⟩:=decode_high ⟨s.toArray⟩ k hlt (by rw[hb];omega);have hd2:=decode_le ⟨s.toArray⟩ k;have hnx:∀ty,(Instr.next (.pointer (some ⟨w.heap.size,0,none⟩)) true ty).run Tryz.prog (w.iter ⟨s.toArray⟩ k)=_:=fun ty=>run_next_any w ⟨s.toArray⟩ k ty hlt
   have hno:=hd0 (FB s k c hc (Qh (by omega)));clear hc hall hb;generalize Utf8.decode ⟨s.toArray⟩ k=D at*
   obtain⟨r,wd⟩:=D;simp only at hd1 hd2 hnx;go_wp2
   all_goals first
    |(exfalso;simp only[beq_iff_eq,beq_eq_false_iff_ne,ne_eq] at*;omega)
    |(go_ret;exact⟨by rw[hno.out];rfl,lq _ _ _⟩)
    |trace_state
  obtain rfl:k=s.length:=by omega
  have hf:=hd0 ((Yr s hall).trans (decide_eq_true ⟨h1,h2⟩));have hnx:∀ty,(Instr.next (.pointer (some ⟨w.heap.size,0,none⟩)) true ty).run Tryz.prog (w.iter ⟨s.toArray⟩ s.length)=_:=fun ty=>run_next_end w ⟨s.toArray⟩ s.length ty hlt
  clear hall;go_wp2;go_ret
  exact⟨by rw[hf.out];rfl,lq _ _ _⟩
end
end Go.Proofs.YtkijckccfookeaaGreatDoor
