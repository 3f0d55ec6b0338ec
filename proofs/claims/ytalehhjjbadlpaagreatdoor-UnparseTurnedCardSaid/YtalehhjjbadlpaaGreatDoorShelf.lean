/- Lemmas. -/
import Derived.Test.YtalehhjjbadlpaaGreatDoorX00
import Derived.Shelf.Small.Wraps
import Derived.Shelf.Strconv.Itoa3
import Derived.Shelf.Strings.Shaped
import Derived.Shelf.Sort.Plain
import Derived.Shelf.Unicode.DecodeSlow
import Derived.Shelf.Slices.Clone
import Derived.Shelf.Slices.Cells
import Derived.Shelf.Slices.In.SortNone
import Derived.Test.YtalehhjjbadlpaaGreatDoorProg
set_option linter.all false
namespace Go.Proofs
open Go.Shelf
open Go.RowKit in
def Tryz.ox:Go.Shelf.Ren:=⟨λ|103=>138|210=>153|206=>166|n=>n,λ|9=>9|4=>4|24=>219|3=>3|n=>n,λ|n=>n⟩
theorem Tryz.rK:Go.Proofs.Lays.n103 Tryz.prog Tryz.ox:= {
 mixed:=by kernel_rfl
 f103:=Tryz.func138.trans (congrArg some (by kernel_rfl))
 f206:=Tryz.func166.trans (congrArg some (by kernel_rfl))
 f210:=Tryz.func153.trans (congrArg some (by kernel_rfl))
 t3:=Tryz.underlying3
 a3:=Tryz.isAgg3
 z3:=Tryz.sizeOf3
 v3:=Tryz.zeroValue3
 t4:=Tryz.underlying4
 a4:=Tryz.isAgg4
 z4:=Tryz.sizeOf4
 v4:=Tryz.zeroValue4
 t9:=Tryz.underlying9
 a9:=Tryz.isAgg9
 z9:=Tryz.sizeOf9
 v9:=Tryz.zeroValue9
 t24:=Tryz.underlying219
 a24:=Tryz.isAgg219
 z24:=Tryz.sizeOf219
 v24:=Tryz.zeroValue219}
open Go.RowKit in
theorem Tryz.strings_CutPrefix (s p:ByteArray)(w:World):
  Calls Tryz.prog 138 #[.string s,.string p] w λe w'=>e=.returned (.tuple #[.string ⟨(Lib.trimPrefix s.data.toList p.data.toList).toArray⟩,.bool (Lib.hasPrefix s.data.toList p.data.toList)])/\w'=w:=Any.strings_CutPrefix Tryz.rK s p w
open Go.RowKit in
def Tryz.oy:Go.Shelf.Ren:=⟨λ|104=>140|211=>154|207=>167|n=>n,λ|9=>9|4=>4|24=>219|3=>3|n=>n,λ|n=>n⟩
theorem Tryz.rL:Go.Proofs.Lays.n104 Tryz.prog Tryz.oy:= {
 mixed:=by kernel_rfl
 f104:=Tryz.func140.trans (congrArg some (by kernel_rfl))
 f207:=Tryz.func167.trans (congrArg some (by kernel_rfl))
 f211:=Tryz.func154.trans (congrArg some (by kernel_rfl))
 t3:=Tryz.underlying3
 a3:=Tryz.isAgg3
 z3:=Tryz.sizeOf3
 v3:=Tryz.zeroValue3
 t4:=Tryz.underlying4
 a4:=Tryz.isAgg4
 z4:=Tryz.sizeOf4
 v4:=Tryz.zeroValue4
 t9:=Tryz.underlying9
 a9:=Tryz.isAgg9
 z9:=Tryz.sizeOf9
 v9:=Tryz.zeroValue9
 t24:=Tryz.underlying219
 a24:=Tryz.isAgg219
 z24:=Tryz.sizeOf219
 v24:=Tryz.zeroValue219}
open Go.RowKit in
theorem Tryz.strings_CutSuffix (s p:ByteArray)(w:World)(hs:s.size<=9223372036854775807):
  Calls Tryz.prog 140 #[.string s,.string p] w λe w'=>e=.returned (.tuple #[.string ⟨(Lib.trimSuffix s.data.toList p.data.toList).toArray⟩,.bool (Lib.hasSuffix s.data.toList p.data.toList)])/\w'=w:=Any.strings_CutSuffix Tryz.rL s p w hs
open Go.RowKit in
open Go.Lib in
open Go.Lib in
open Go.Lib in
open Go.Lib in
open Go.RowKit Go.Sort Go.Lib in
open Go.RowKit Go.Sort Go.Lib in
open Go.RowKit Go.Sort Go.Lib in
open Go.RowKit Go.Sort Go.Lib in
open Go.RowKit Go.Sort Go.Lib in
def Tryz.ol:Go.Shelf.Ren:=⟨λ|171=>63|243=>109|246=>145|283=>158|284=>159|285=>160|286=>161|129=>171|317=>170|318=>172|319=>173|320=>174|337=>187|338=>188|n=>n,λ|3=>3|9=>9|2=>2|4=>4|171=>232|0=>0|53=>233|37=>104|5=>5|173=>236|212=>247|51=>248|20=>20|213=>249|46=>239|232=>267|233=>268|n=>n,λ|17=>9|18=>10|19=>11|n=>n⟩
theorem Tryz.qs:Go.Proofs.LaysM.n171 Tryz.prog Tryz.ol:= {
 mixed:=by kernel_rfl
 f129:=Tryz.func171.trans (congrArg some (by kernel_rfl))
 f171:=Tryz.func63.trans (congrArg some (by kernel_rfl))
 f243:=Tryz.func109.trans (congrArg some (by kernel_rfl))
 f246:=Tryz.func145.trans (congrArg some (by kernel_rfl))
 f283:=Tryz.func158.trans (congrArg some (by kernel_rfl))
 f284:=Tryz.func159.trans (congrArg some (by kernel_rfl))
 f285:=Tryz.func160.trans (congrArg some (by kernel_rfl))
 f286:=Tryz.func161.trans (congrArg some (by kernel_rfl))
 f317:=Tryz.func170.trans (congrArg some (by kernel_rfl))
 f318:=Tryz.func172.trans (congrArg some (by kernel_rfl))
 f319:=Tryz.func173.trans (congrArg some (by kernel_rfl))
 f320:=Tryz.func174.trans (congrArg some (by kernel_rfl))
 f337:=Tryz.func187.trans (congrArg some (by kernel_rfl))
 f338:=Tryz.func188.trans (congrArg some (by kernel_rfl))
 t0:=Tryz.underlying0
 a0:=Tryz.isAgg0
 z0:=Tryz.sizeOf0
 v0:=Tryz.zeroValue0
 t2:=Tryz.underlying2
 a2:=Tryz.isAgg2
 z2:=Tryz.sizeOf2
 v2:=Tryz.zeroValue2
 t3:=Tryz.underlying3
 a3:=Tryz.isAgg3
 z3:=Tryz.sizeOf3
 v3:=Tryz.zeroValue3
 t4:=Tryz.underlying4
 a4:=Tryz.isAgg4
 z4:=Tryz.sizeOf4
 v4:=Tryz.zeroValue4
 t5:=Tryz.underlying5
 a5:=Tryz.isAgg5
 z5:=Tryz.sizeOf5
 v5:=Tryz.zeroValue5
 t9:=Tryz.underlying9
 a9:=Tryz.isAgg9
 z9:=Tryz.sizeOf9
 v9:=Tryz.zeroValue9
 t20:=Tryz.underlying20
 a20:=Tryz.isAgg20
 z20:=Tryz.sizeOf20
 v20:=Tryz.zeroValue20
 t37:=Tryz.underlying104
 a37:=Tryz.isAgg104
 z37:=Tryz.sizeOf104
 v37:=Tryz.zeroValue104
 t46:=Tryz.underlying239
 a46:=Tryz.isAgg239
 z46:=Tryz.sizeOf239
 v46:=Tryz.zeroValue239
 t51:=Tryz.underlying248
 a51:=Tryz.isAgg248
 z51:=Tryz.sizeOf248
 v51:=Tryz.zeroValue248
 t53:=Tryz.underlying233
 a53:=Tryz.isAgg233
 z53:=Tryz.sizeOf233
 v53:=Tryz.zeroValue233
 t171:=Tryz.underlying232
 a171:=Tryz.isAgg232
 z171:=Tryz.sizeOf232
 v171:=Tryz.zeroValue232
 t173:=Tryz.underlying236
 a173:=Tryz.isAgg236
 z173:=Tryz.sizeOf236
 v173:=Tryz.zeroValue236
 t212:=Tryz.underlying247
 a212:=Tryz.isAgg247
 z212:=Tryz.sizeOf247
 v212:=Tryz.zeroValue247
 t213:=Tryz.underlying249
 a213:=Tryz.isAgg249
 z213:=Tryz.sizeOf249
 t232:=Tryz.underlying267
 a232:=Tryz.isAgg267
 z232:=Tryz.sizeOf267
 v232:=Tryz.zeroValue267
 t233:=Tryz.underlying268
 a233:=Tryz.isAgg268
 z233:=Tryz.sizeOf268
 v233:=Tryz.zeroValue268
 g17:=by kernel_rfl
 g18:=by kernel_rfl
 g19:=by kernel_rfl
 i0:=by kernel_rfl
 i2:=by kernel_rfl
 i3:=by kernel_rfl
 i4:=by kernel_rfl
 i5:=by kernel_rfl
 i9:=by kernel_rfl
 i20:=by kernel_rfl
 i37:=by kernel_rfl
 i46:=by kernel_rfl
 i51:=by kernel_rfl
 i53:=by kernel_rfl
 i171:=by kernel_rfl
 i173:=by kernel_rfl
 i212:=by kernel_rfl
 i232:=by kernel_rfl
 i233:=by kernel_rfl
 m17:=by kernel_rfl
 m18:=by kernel_rfl
 m19:=by kernel_rfl}
open Go.RowKit Go.Sort Go.Lib in
theorem Tryz.strconv_Itoa (n:Int)(h0: -9223372036854775808≤n)(h1:n≤9223372036854775807)(w:World)(htab:Lib.TabIs Tryz.prog w "internal/strconv.uint64pow10" .u64 Lib.pow10Tab):
  Calls Tryz.prog 63 #[.int .i64 n] w λe w'=>e=.returned (.string ⟨(Lib.itoa n).toArray⟩)/\∃k os,w'=grow (w.drewN k) os:=Any.strconv_Itoa Tryz.qs n h0 h1 w htab
open Go.RowKit Go.Sort Go.Lib in
open Go.RowKit Go.Lib in
open Go.RowKit Go.Lib in
open Go.RowKit Go.Lib in
open Go.RowKit Go.Lib in
def Tryz.oF:Go.Shelf.Ren:=⟨λ|219=>149|217=>162|225=>163|224=>164|267=>165|266=>175|314=>176|n=>n,λ|9=>9|3=>3|4=>4|5=>5|46=>239|146=>250|51=>248|n=>n,λ|1=>8|n=>n⟩
theorem Tryz.rR:Go.Proofs.Lays.n219 Tryz.prog Tryz.oF:= {
 mixed:=by kernel_rfl
 f217:=Tryz.func162.trans (congrArg some (by kernel_rfl))
 f219:=Tryz.func149.trans (congrArg some (by kernel_rfl))
 f224:=Tryz.func164.trans (congrArg some (by kernel_rfl))
 f225:=Tryz.func163.trans (congrArg some (by kernel_rfl))
 f266:=Tryz.func175.trans (congrArg some (by kernel_rfl))
 f267:=Tryz.func165.trans (congrArg some (by kernel_rfl))
 f314:=Tryz.func176.trans (congrArg some (by kernel_rfl))
 t3:=Tryz.underlying3
 a3:=Tryz.isAgg3
 z3:=Tryz.sizeOf3
 v3:=Tryz.zeroValue3
 t4:=Tryz.underlying4
 a4:=Tryz.isAgg4
 z4:=Tryz.sizeOf4
 v4:=Tryz.zeroValue4
 t5:=Tryz.underlying5
 a5:=Tryz.isAgg5
 z5:=Tryz.sizeOf5
 v5:=Tryz.zeroValue5
 t9:=Tryz.underlying9
 a9:=Tryz.isAgg9
 z9:=Tryz.sizeOf9
 v9:=Tryz.zeroValue9
 t46:=Tryz.underlying239
 a46:=Tryz.isAgg239
 z46:=Tryz.sizeOf239
 v46:=Tryz.zeroValue239
 t51:=Tryz.underlying248
 a51:=Tryz.isAgg248
 z51:=Tryz.sizeOf248
 v51:=Tryz.zeroValue248
 t146:=Tryz.underlying250
 a146:=Tryz.isAgg250
 z146:=Tryz.sizeOf250
 v146:=Tryz.zeroValue250
 g1:=by kernel_rfl}
open Go.RowKit Go.Lib in
theorem Tryz.stringslite_Index_one (s:ByteArray)(c:UInt8)(w:World):
  Calls Tryz.prog 149 #[.string s,.string ⟨#[c]⟩] w λe w'=>e=.returned (.int .i64 (Lib.indexByte s.data.toList c))/\w'=w:=Any.stringslite_Index_one Tryz.rR s c w
open Go.RowKit Go.Lib in
def Tryz.oB:Go.Shelf.Ren:=⟨λ|143=>130|219=>149|217=>162|225=>163|224=>164|267=>165|266=>175|314=>176|n=>n,λ|9=>9|3=>3|4=>4|5=>5|46=>239|146=>250|51=>248|n=>n,λ|1=>8|n=>n⟩
theorem Tryz.rN:Go.Proofs.Lays.n143 Tryz.prog Tryz.oB:= {
 mixed:=by kernel_rfl
 f143:=Tryz.func130.trans (congrArg some (by kernel_rfl))
 f217:=Tryz.func162.trans (congrArg some (by kernel_rfl))
 f219:=Tryz.func149.trans (congrArg some (by kernel_rfl))
 f224:=Tryz.func164.trans (congrArg some (by kernel_rfl))
 f225:=Tryz.func163.trans (congrArg some (by kernel_rfl))
 f266:=Tryz.func175.trans (congrArg some (by kernel_rfl))
 f267:=Tryz.func165.trans (congrArg some (by kernel_rfl))
 f314:=Tryz.func176.trans (congrArg some (by kernel_rfl))
 t3:=Tryz.underlying3
 a3:=Tryz.isAgg3
 z3:=Tryz.sizeOf3
 v3:=Tryz.zeroValue3
 t4:=Tryz.underlying4
 a4:=Tryz.isAgg4
 z4:=Tryz.sizeOf4
 v4:=Tryz.zeroValue4
 t5:=Tryz.underlying5
 a5:=Tryz.isAgg5
 z5:=Tryz.sizeOf5
 v5:=Tryz.zeroValue5
 t9:=Tryz.underlying9
 a9:=Tryz.isAgg9
 z9:=Tryz.sizeOf9
 v9:=Tryz.zeroValue9
 t46:=Tryz.underlying239
 a46:=Tryz.isAgg239
 z46:=Tryz.sizeOf239
 v46:=Tryz.zeroValue239
 t51:=Tryz.underlying248
 a51:=Tryz.isAgg248
 z51:=Tryz.sizeOf248
 v51:=Tryz.zeroValue248
 t146:=Tryz.underlying250
 a146:=Tryz.isAgg250
 z146:=Tryz.sizeOf250
 v146:=Tryz.zeroValue250
 g1:=by kernel_rfl}
open Go.RowKit Go.Lib in
theorem Tryz.strings_Index_one (s:ByteArray)(c:UInt8)(w:World):
  Calls Tryz.prog 130 #[.string s,.string ⟨#[c]⟩] w λe w'=>e=.returned (.int .i64 (Lib.indexByte s.data.toList c))/\w'=w:=Any.strings_Index_one Tryz.rN s c w
open Go.RowKit Go.Lib in
open Go.RowKit Go.Lib in
open Go.RowKit Go.Lib in
def Tryz.oA:Go.Shelf.Ren:=⟨λ|138=>135|195=>150|218=>151|143=>130|219=>149|217=>162|225=>163|224=>164|267=>165|266=>175|314=>176|n=>n,λ|9=>9|3=>3|4=>4|5=>5|0=>0|46=>239|146=>250|51=>248|n=>n,λ|1=>8|n=>n⟩
theorem Tryz.rM:Go.Proofs.Lays.n138 Tryz.prog Tryz.oA:= {
 mixed:=by kernel_rfl
 f138:=Tryz.func135.trans (congrArg some (by kernel_rfl))
 f143:=Tryz.func130.trans (congrArg some (by kernel_rfl))
 f195:=Tryz.func150.trans (congrArg some (by kernel_rfl))
 f217:=Tryz.func162.trans (congrArg some (by kernel_rfl))
 f218:=Tryz.func151.trans (congrArg some (by kernel_rfl))
 f219:=Tryz.func149.trans (congrArg some (by kernel_rfl))
 f224:=Tryz.func164.trans (congrArg some (by kernel_rfl))
 f225:=Tryz.func163.trans (congrArg some (by kernel_rfl))
 f266:=Tryz.func175.trans (congrArg some (by kernel_rfl))
 f267:=Tryz.func165.trans (congrArg some (by kernel_rfl))
 f314:=Tryz.func176.trans (congrArg some (by kernel_rfl))
 t0:=Tryz.underlying0
 a0:=Tryz.isAgg0
 z0:=Tryz.sizeOf0
 v0:=Tryz.zeroValue0
 t3:=Tryz.underlying3
 a3:=Tryz.isAgg3
 z3:=Tryz.sizeOf3
 v3:=Tryz.zeroValue3
 t4:=Tryz.underlying4
 a4:=Tryz.isAgg4
 z4:=Tryz.sizeOf4
 v4:=Tryz.zeroValue4
 t5:=Tryz.underlying5
 a5:=Tryz.isAgg5
 z5:=Tryz.sizeOf5
 v5:=Tryz.zeroValue5
 t9:=Tryz.underlying9
 a9:=Tryz.isAgg9
 z9:=Tryz.sizeOf9
 v9:=Tryz.zeroValue9
 t46:=Tryz.underlying239
 a46:=Tryz.isAgg239
 z46:=Tryz.sizeOf239
 v46:=Tryz.zeroValue239
 t51:=Tryz.underlying248
 a51:=Tryz.isAgg248
 z51:=Tryz.sizeOf248
 v51:=Tryz.zeroValue248
 t146:=Tryz.underlying250
 a146:=Tryz.isAgg250
 z146:=Tryz.sizeOf250
 v146:=Tryz.zeroValue250
 g1:=by kernel_rfl}
open Go.RowKit Go.Lib in
theorem Tryz.strings_Count_one (s:ByteArray)(c:UInt8)(w:World):
  Calls Tryz.prog 135 #[.string s,.string ⟨#[c]⟩] w λe w'=>e=.returned (.int .i64 (Lib.countByte s.data.toList c))/\w'=w:=Any.strings_Count_one Tryz.rM s c w
open Go.RowKit Go.Lib in
open Go.RowKit Go.Lib in
open Go.RowKit Go.Lib in
open Go.RowKit Go.Lib in
open Go.RowKit Go.Lib in
open Go.RowKit Go.Lib in
def Tryz.oE:Go.Shelf.Ren:=⟨λ|189=>156|125=>169|257=>168|128=>186|129=>171|294=>177|295=>178|296=>179|297=>180|298=>181|299=>182|216=>183|300=>184|301=>185|328=>189|329=>190|330=>191|331=>192|332=>193|215=>194|343=>195|n=>n,λ|28=>22|3=>3|46=>239|0=>0|51=>248|53=>233|4=>4|183=>254|182=>253|131=>131|5=>5|9=>9|218=>261|222=>265|228=>269|229=>270|n=>n,λ|n=>n⟩
theorem Tryz.pA:Go.Proofs.Lays.n189 Tryz.prog Tryz.oE:= {
 mixed:=by kernel_rfl
 f125:=Tryz.func169.trans (congrArg some (by kernel_rfl))
 f128:=Tryz.func186.trans (congrArg some (by kernel_rfl))
 f129:=Tryz.func171.trans (congrArg some (by kernel_rfl))
 f189:=Tryz.func156.trans (congrArg some (by kernel_rfl))
 f215:=Tryz.func194.trans (congrArg some (by kernel_rfl))
 f216:=Tryz.func183.trans (congrArg some (by kernel_rfl))
 f257:=Tryz.func168.trans (congrArg some (by kernel_rfl))
 f294:=Tryz.func177.trans (congrArg some (by kernel_rfl))
 f295:=Tryz.func178.trans (congrArg some (by kernel_rfl))
 f296:=Tryz.func179.trans (congrArg some (by kernel_rfl))
 f297:=Tryz.func180.trans (congrArg some (by kernel_rfl))
 f298:=Tryz.func181.trans (congrArg some (by kernel_rfl))
 f299:=Tryz.func182.trans (congrArg some (by kernel_rfl))
 f300:=Tryz.func184.trans (congrArg some (by kernel_rfl))
 f301:=Tryz.func185.trans (congrArg some (by kernel_rfl))
 f328:=Tryz.func189.trans (congrArg some (by kernel_rfl))
 f329:=Tryz.func190.trans (congrArg some (by kernel_rfl))
 f330:=Tryz.func191.trans (congrArg some (by kernel_rfl))
 f331:=Tryz.func192.trans (congrArg some (by kernel_rfl))
 f332:=Tryz.func193.trans (congrArg some (by kernel_rfl))
 f343:=Tryz.func195.trans (congrArg some (by kernel_rfl))
 t0:=Tryz.underlying0
 a0:=Tryz.isAgg0
 z0:=Tryz.sizeOf0
 v0:=Tryz.zeroValue0
 t3:=Tryz.underlying3
 a3:=Tryz.isAgg3
 z3:=Tryz.sizeOf3
 v3:=Tryz.zeroValue3
 t4:=Tryz.underlying4
 a4:=Tryz.isAgg4
 z4:=Tryz.sizeOf4
 v4:=Tryz.zeroValue4
 t5:=Tryz.underlying5
 a5:=Tryz.isAgg5
 z5:=Tryz.sizeOf5
 v5:=Tryz.zeroValue5
 t9:=Tryz.underlying9
 a9:=Tryz.isAgg9
 z9:=Tryz.sizeOf9
 v9:=Tryz.zeroValue9
 t28:=Tryz.underlying22
 a28:=Tryz.isAgg22
 z28:=Tryz.sizeOf22
 v28:=Tryz.zeroValue22
 t46:=Tryz.underlying239
 a46:=Tryz.isAgg239
 z46:=Tryz.sizeOf239
 v46:=Tryz.zeroValue239
 t51:=Tryz.underlying248
 a51:=Tryz.isAgg248
 z51:=Tryz.sizeOf248
 v51:=Tryz.zeroValue248
 t53:=Tryz.underlying233
 a53:=Tryz.isAgg233
 z53:=Tryz.sizeOf233
 v53:=Tryz.zeroValue233
 t131:=Tryz.underlying131
 a131:=Tryz.isAgg131
 z131:=Tryz.sizeOf131
 v131:=Tryz.zeroValue131
 t182:=Tryz.underlying253
 a182:=Tryz.isAgg253
 z182:=Tryz.sizeOf253
 v182:=Tryz.zeroValue253
 t183:=Tryz.underlying254
 a183:=Tryz.isAgg254
 z183:=Tryz.sizeOf254
 v183:=Tryz.zeroValue254
 t218:=Tryz.underlying261
 a218:=Tryz.isAgg261
 z218:=Tryz.sizeOf261
 v218:=Tryz.zeroValue261
 t222:=Tryz.underlying265
 a222:=Tryz.isAgg265
 z222:=Tryz.sizeOf265
 v222:=Tryz.zeroValue265
 t228:=Tryz.underlying269
 a228:=Tryz.isAgg269
 z228:=Tryz.sizeOf269
 v228:=Tryz.zeroValue269
 t229:=Tryz.underlying270
 a229:=Tryz.isAgg270
 z229:=Tryz.sizeOf270
 v229:=Tryz.zeroValue270}
open Go.Sort Go.RowKit in
theorem Tryz.slices_Sort_int (blk off cap:Nat)(zs:List Int)(w:World)(hH:Holds (Value.int .i64) w blk off zs.toArray)(hblk:blk<w.heap.size)(hsz:zs.length<4611686018427387904):
  Calls Tryz.prog 156 #[.slice (some ⟨blk,off,none⟩) zs.length cap] w λe w'=>
   e=.returned (.tuple #[])/\∃n os,w'=grow (putRow (Value.int .i64) (Sort.ahead w n) blk off (zs.mergeSort λx y=>decide (x<=y)).toArray) os:=Any.slices_Sort_int Tryz.pA blk off cap zs w hH hblk hsz
open Go.RowKit Go.Lib in
open Go.RowKit Go.Lib in
open Go.RowKit Go.Lib in
def Tryz.nA:Go.Shelf.Ren:=⟨λ|15=>111|n=>n,λ|22=>22|3=>3|4=>4|n=>n,λ|n=>n⟩
theorem Tryz.mE:Go.Proofs.Lays2.n15 Tryz.prog Tryz.nA:= {
 mixed:=by kernel_rfl
 f15:=Tryz.func111.trans (congrArg some (by kernel_rfl))
 t3:=Tryz.underlying3
 a3:=Tryz.isAgg3
 z3:=Tryz.sizeOf3
 v3:=Tryz.zeroValue3
 t4:=Tryz.underlying4
 a4:=Tryz.isAgg4
 z4:=Tryz.sizeOf4
 v4:=Tryz.zeroValue4
 t22:=Tryz.underlying22
 a22:=Tryz.isAgg22
 z22:=Tryz.sizeOf22
 v22:=Tryz.zeroValue22
 i3:=by kernel_rfl}
open Go.RowKit Go.Lib in
theorem Tryz.slices_Clone_int (b off n c:Nat)(zs:List Int)(w:World)(hz:n<=zs.length)(hbig:n*8<=140737488355328)(hc:∀j,j<zs.length->w.cell? ⟨b,off+j,none⟩=some (.int .i64 (zs.getD j 0))):
  Calls Tryz.prog 111 #[.slice (some ⟨b,off,none⟩) n c] w λe w'=>∃v',e=.returned v'/\w'.ownsRow w.heap.size 3 1 v' n ((zs.take n).map (Value.int .i64))/\v'≠ .slice none 0 0/\Below w.heap.size w w':=Any.slices_Clone_int Tryz.mE b off n c zs w hz hbig hc
open Go.RowKit Go.Lib in
theorem Tryz.slices_Clone_int_nil (n c:Nat)(w:World):
  Calls Tryz.prog 111 #[.slice none n c] w λe w'=>e=.returned (.slice none 0 0)/\w'=w:=Any.slices_Clone_int_nil Tryz.mE n c w
open Go.RowKit Go.Lib in
theorem Tryz.slices_Clone_int_zero (a:Addr)(c:Nat)(w:World):
  Calls Tryz.prog 111 #[.slice (some a) 0 c] w λe w'=>∃v',e=.returned v'/\w'.ownsRow w.heap.size 3 1 v' 0 []/\v'≠ .slice none 0 0/\Below w.heap.size w w':=Any.slices_Clone_int_zero Tryz.mE a c w
def Tryz.nB:Go.Shelf.Ren:=⟨λ|20=>157|n=>n,λ|22=>22|3=>3|4=>4|0=>0|n=>n,λ|n=>n⟩
theorem Tryz.od:Go.Proofs.Lays2.n20 Tryz.prog Tryz.nB:= {
 mixed:=by kernel_rfl
 f20:=Tryz.func157.trans (congrArg some (by kernel_rfl))
 t0:=Tryz.underlying0
 a0:=Tryz.isAgg0
 z0:=Tryz.sizeOf0
 v0:=Tryz.zeroValue0
 t3:=Tryz.underlying3
 a3:=Tryz.isAgg3
 z3:=Tryz.sizeOf3
 v3:=Tryz.zeroValue3
 t4:=Tryz.underlying4
 a4:=Tryz.isAgg4
 z4:=Tryz.sizeOf4
 v4:=Tryz.zeroValue4
 t22:=Tryz.underlying22
 a22:=Tryz.isAgg22
 z22:=Tryz.sizeOf22
 v22:=Tryz.zeroValue22
 i3:=by kernel_rfl}
open Go.RowKit Go.Lib Go.Sort in
open Go.RowKit Go.Lib Go.Sort in
theorem Tryz.slices_Compact_int (blk off cap:Nat)(zs:List Int)(w:World)(hH:Holds (Value.int .i64) w blk off zs.toArray)(hsz:zs.length<=9223372036854775807)(hcap:zs.length<=cap):
  Calls Tryz.prog 157 #[.slice (some ⟨blk,off,none⟩) zs.length cap] w λe w'=>e=.returned (.slice (some ⟨blk,off,none⟩) (Lib.compact zs).length cap)/\∃q,w'=putRow (Value.int .i64) (Sort.ahead w q) blk off (Lib.compact zs++List.replicate (zs.length - (Lib.compact zs).length) 0).toArray:=Any.slices_Compact_int Tryz.od blk off cap zs w hH hsz hcap
open Go.RowKit Go.Lib Go.Sort in
theorem Tryz.slices_Compact_int_empty (a:Option Addr)(cap:Nat)(w:World):
  Calls Tryz.prog 157 #[.slice a 0 cap] w λe w'=>e=.returned (.slice a 0 cap)/\w'=w:=Any.slices_Compact_int_empty Tryz.od a cap w
open Go.RowKit Go.Lib Go.Sort in
open Go.RowKit Go.Sort in
theorem Tryz.slices_Sort_int_none (p:Option Addr)(cap:Nat)(w:World):
  Calls Tryz.prog 156 #[.slice p 0 cap] w λe w'=>e=.returned (.tuple #[])/\w'=w:=Any.slices_Sort_int_none Tryz.pA p cap w
end Go.Proofs
