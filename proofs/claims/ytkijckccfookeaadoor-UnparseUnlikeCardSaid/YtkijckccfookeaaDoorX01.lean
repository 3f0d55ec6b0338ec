/- Lemmas. -/
import Derived.Test.YtkijckccfookeaaDoorAb
import Derived.Shelf.Strconv.Itoa3
import Derived.Shelf.Strings.Shaped
import Derived.Shelf.Unicode.DecodeSlow
import Derived.Test.YtkijckccfookeaaDoorProg
import Derived.BigQuiet
import Derived.Deep.Slices
import Derived.ProofKit
import Derived.OpenShut
set_option linter.unusedVariables false
set_option linter.unusedSimpArgs false
namespace Go.Proofs
open Go.Shelf
def Tryd.af2:Go.Shelf.Ren:=⟨fun|171=>44|243=>66|246=>91|283=>103|284=>104|285=>105|286=>106|129=>113|317=>112|318=>114|319=>115|320=>116|337=>119|338=>120|n=>n,fun|3=>3|9=>9|2=>2|4=>4|171=>177|0=>0|53=>178|37=>92|5=>5|173=>181|212=>192|51=>193|20=>20|213=>194|46=>186|232=>199|233=>200|n=>n,fun|17=>7|18=>8|19=>9|n=>n⟩
theorem Tryd.laysM171:Go.Proofs.LaysM.n171 Tryd.prog Tryd.af2:= {
 mixed:=by kernel_rfl
 f129:=Tryd.func113.trans (congrArg some (by kernel_rfl))
 f171:=Tryd.func44.trans (congrArg some (by kernel_rfl))
 f243:=Tryd.func66.trans (congrArg some (by kernel_rfl))
 f246:=Tryd.func91.trans (congrArg some (by kernel_rfl))
 f283:=Tryd.func103.trans (congrArg some (by kernel_rfl))
 f284:=Tryd.func104.trans (congrArg some (by kernel_rfl))
 f285:=Tryd.func105.trans (congrArg some (by kernel_rfl))
 f286:=Tryd.func106.trans (congrArg some (by kernel_rfl))
 f317:=Tryd.func112.trans (congrArg some (by kernel_rfl))
 f318:=Tryd.func114.trans (congrArg some (by kernel_rfl))
 f319:=Tryd.func115.trans (congrArg some (by kernel_rfl))
 f320:=Tryd.func116.trans (congrArg some (by kernel_rfl))
 f337:=Tryd.func119.trans (congrArg some (by kernel_rfl))
 f338:=Tryd.func120.trans (congrArg some (by kernel_rfl))
 t0:=Tryd.underlying0
 a0:=Tryd.isAgg0
 z0:=Tryd.sizeOf0
 v0:=Tryd.zeroValue0
 t2:=Tryd.underlying2
 a2:=Tryd.isAgg2
 z2:=Tryd.sizeOf2
 v2:=Tryd.zeroValue2
 t3:=Tryd.underlying3
 a3:=Tryd.isAgg3
 z3:=Tryd.sizeOf3
 v3:=Tryd.zeroValue3
 t4:=Tryd.underlying4
 a4:=Tryd.isAgg4
 z4:=Tryd.sizeOf4
 v4:=Tryd.zeroValue4
 t5:=Tryd.underlying5
 a5:=Tryd.isAgg5
 z5:=Tryd.sizeOf5
 v5:=Tryd.zeroValue5
 t9:=Tryd.underlying9
 a9:=Tryd.isAgg9
 z9:=Tryd.sizeOf9
 v9:=Tryd.zeroValue9
 t20:=Tryd.underlying20
 a20:=Tryd.isAgg20
 z20:=Tryd.sizeOf20
 v20:=Tryd.zeroValue20
 t37:=Tryd.underlying92
 a37:=Tryd.isAgg92
 z37:=Tryd.sizeOf92
 v37:=Tryd.zeroValue92
 t46:=Tryd.underlying186
 a46:=Tryd.isAgg186
 z46:=Tryd.sizeOf186
 v46:=Tryd.zeroValue186
 t51:=Tryd.underlying193
 a51:=Tryd.isAgg193
 z51:=Tryd.sizeOf193
 v51:=Tryd.zeroValue193
 t53:=Tryd.underlying178
 a53:=Tryd.isAgg178
 z53:=Tryd.sizeOf178
 v53:=Tryd.zeroValue178
 t171:=Tryd.underlying177
 a171:=Tryd.isAgg177
 z171:=Tryd.sizeOf177
 v171:=Tryd.zeroValue177
 t173:=Tryd.underlying181
 a173:=Tryd.isAgg181
 z173:=Tryd.sizeOf181
 v173:=Tryd.zeroValue181
 t212:=Tryd.underlying192
 a212:=Tryd.isAgg192
 z212:=Tryd.sizeOf192
 v212:=Tryd.zeroValue192
 t213:=Tryd.underlying194
 a213:=Tryd.isAgg194
 z213:=Tryd.sizeOf194
 t232:=Tryd.underlying199
 a232:=Tryd.isAgg199
 z232:=Tryd.sizeOf199
 v232:=Tryd.zeroValue199
 t233:=Tryd.underlying200
 a233:=Tryd.isAgg200
 z233:=Tryd.sizeOf200
 v233:=Tryd.zeroValue200
 g17:=by kernel_rfl
 g18:=by kernel_rfl
 g19:=by kernel_rfl
 i0:=by kernel_rfl
 i2:=by kernel_rfl
 i3:=by kernel_rfl
 i4:=by kernel_rfl
 i5:=by kernel_rfl
 i9:=by kernel_rfl
 i20:=by kernel_rfl
 i37:=by kernel_rfl
 i46:=by kernel_rfl
 i51:=by kernel_rfl
 i53:=by kernel_rfl
 i171:=by kernel_rfl
 i173:=by kernel_rfl
 i212:=by kernel_rfl
 i232:=by kernel_rfl
 i233:=by kernel_rfl
 m17:=by kernel_rfl
 m18:=by kernel_rfl
 m19:=by kernel_rfl}
open Go.RowKit Go.Sort Go.Lib in
theorem Tryd.strconv_Itoa (n:Int)(h0: -9223372036854775808≤n)(h1:n≤9223372036854775807)(w:World)(htab:Lib.TabIs Tryd.prog w "internal/strconv.uint64pow10" .u64 Lib.pow10Tab):
  Calls Tryd.prog 44 #[.int .i64 n] w fun e w'=>e= .returned (.string ⟨(Lib.itoa n).toArray⟩)/\∃k os,w'=grow (w.drewN k) os:=Any.strconv_Itoa Tryd.laysM171 n h0 h1 w htab
end Go.Proofs
namespace Go.Proofs.YtkijckccfookeaaDoor
section
open Go.RowKit
structure WIn (S:World->Prop) where
 w:World
 ok:S w
theorem bT {P:Program}{id:Nat}{Q:Exit->Act->World->Prop}{a:Act}{w:World}{l:List Oper}(S:World->Prop)(hm:P.follows .mixedOrders=true)(hB:Region.lexB .any l.toArray=true)(hS:S {w with drawn:=w.drawn+1})
  (h:wpQuiet P l.toArray (fun w'=>∃x:WIn S,w'=x.w) (fun a'=>∀w',(∃x:WIn S,w'=x.w)->Q .normal a' w') l a):(Code.region id l.toArray true).wp P Q a w:=
 wp_region_quiet (C:=fun w'=>∃x:WIn S,w'=x.w) hm hB ⟨⟨_,hS⟩,rfl⟩ h
end
section
open Go.ChangeShapes Go.WideShapes Go.RowKit Go.WideMaps
theorem ZV:ArrKey Tryd.prog 23 3 3:=⟨Tryd.underlying23,by kernel_rfl,by kernel_rfl,by kernel_rfl⟩
section
variable {H:Type} {enc:TypeId×Value->H} {P:Program} {k e:TypeId} {q:IntKind} {W:World} {base:Nat} {sp:Nat->Bool} {held:Bool}
theorem LQ (A:ArrKey P k e 3){r:Reach}{b0:Nat}{v:Value}(h:Value.okWide P W r b0 k v):∃c0 c1 c2,v= .agg #[c0,c1,c2]:=by
 simp only[Value.okWide,A.hu] at h;obtain⟨cs,h1,h2,_⟩:=h;rw[A.size] at h2;obtain⟨l⟩:=cs
 match l,h2 with
 |[c0,c1,c2],_=>exact⟨c0,c1,c2,h1⟩
theorem QL (A:ArrKey P k e 3)(he:P.underlying e=some (.int q)){r:Reach}{b0:Nat}{v:Value}{d:DataW H}{ps:List MemPlace}(hval:Value.okWide P W r b0 k v)(hd:DataW.Trod enc P W base sp held k v d ps):
  ∃a b c:Int,v= .agg #[.int q a,.int q b,.int q c]/\d= .agg [.lit (.int q a),.lit (.int q b),.lit (.int q c)]/\ps=[]/\(Lit.int q a).wf=true/\(Lit.int q b).wf=true/\(Lit.int q c).wf=true:=by
 obtain⟨c0,c1,c2,rfl⟩:=LQ A hval;obtain⟨fuel,hf⟩:=hd;cases fuel with
 |zero=>simp[DataW.trod] at hf
 |succ n=>rw[DataW.trod_step] at hf;unfold DataW.trodStep at hf;simp only[A.hu,Value.cells] at hf;rw[if_pos (by rw[A.size];rfl)] at hf;simp only[Option.map_eq_some_iff] at hf;obtain⟨xs,hx,e1⟩:=hf;rw[show List.range 3=[0,1,2] from rfl,List.mapM_cons,List.mapM_cons,List.mapM_cons,List.mapM_nil] at hx;simp only[bind,Option.bind_eq_some_iff,pure,ag3,A.one] at hx;obtain⟨y0,h0,_,⟨y1,h1,_,⟨y2,h2,_,rfl,rfl⟩,rfl⟩,rfl⟩:=hx;obtain⟨a,ea,rfl,wa⟩:=DataW.trod_int he h0;obtain⟨b,eb,rfl,wb⟩:=DataW.trod_int he h1;obtain⟨c,ec,rfl,wc⟩:=DataW.trod_int he h2;simp at ea eb ec;subst ea;subst eb;subst ec;simp only[ahl] at e1;exact⟨a,b,c,rfl,by rw[<-e1.1];rfl,by rw[<-e1.2];rfl,wa,wb,wc⟩
end
end
end Go.Proofs.YtkijckccfookeaaDoor
