/- Lemmas. -/
import Derived.Test.YtkijckccfookeaaDoorW08
set_option linter.unusedVariables false
set_option linter.unusedSimpArgs false
namespace Go.Proofs.YtkijckccfookeaaDoor
open Go.RowKit
structure aaV (g:Zy):Prop where
 pts:g.points.length<=1000
 ends:g.ends.length<=1000
 parts:g.parts.length<=1000
 anch:g.anchors.length<=1000
 aax:g.deltas.length<=1000
 hint:g.hint.length<=1000
structure aaY (r:Z8):Prop where
 rows:r.back.length<=1000/\r.in'.length<=1000/\r.ahead.length<=1000
 outs:r.out.length<=1000/\r.calls.length<=1000
structure aaU (f:Fnt):Prop where
 Zt:f.Zt.length<=1000/\∀g∈f.Zt,aaV g
 chars:f.chars.length<=1000
 Zu:f.Zu.length<=1000/\∀l∈f.Zu,l.rules.length<=1000/\∀r∈l.rules,aaY r
 aal:f.features.length<=1000/\∀x∈f.features,x.Zu.length<=1000
 ZA:f.ZA.length<=1000
 regs:f.regions.length<=1000/\∀r∈f.regions,r.ZU.length<=1000
 funcs:f.funcs.length<=1000/\∀p∈f.funcs,p.length<=1000
 ZB:f.ZB.length<=1000
theorem SmF.cap {f:Fnt}(h:SmF f):aaU f:=
 {Zt:=⟨by have:=h.Zt.1;omega,fun g hg=>by have:=h.Zt.2 g hg;exact⟨by have:=this.pts;omega,by have:=this.ends;omega,by have:=this.parts;omega,by have:=this.anch;omega,by have:=this.aax;omega,by have:=this.hint;omega⟩⟩
  chars:=by have:=h.chars;omega
  Zu:=⟨by have:=h.Zu.1;omega,fun l hl=>⟨by have:=(h.Zu.2 l hl).1;omega,fun r hr=>by have:=(h.Zu.2 l hl).2 r hr;exact⟨⟨by have:=this.rows;omega,by have:=this.rows;omega,by have:=this.rows;omega⟩,⟨by have:=this.outs;omega,by have:=this.outs;omega⟩⟩⟩⟩
  aal:=⟨by have:=h.aal.1;omega,fun x hx=>by have:=h.aal.2 x hx;omega⟩
  ZA:=by have:=h.ZA;omega
  regs:=⟨by have:=h.regs.1;omega,fun x hx=>by have:=h.regs.2 x hx;omega⟩
  funcs:=⟨by have:=h.funcs.1;omega,fun x hx=>by have:=h.funcs.2 x hx;omega⟩
  ZB:=by have:=h.ZB;omega}
end Go.Proofs.YtkijckccfookeaaDoor
