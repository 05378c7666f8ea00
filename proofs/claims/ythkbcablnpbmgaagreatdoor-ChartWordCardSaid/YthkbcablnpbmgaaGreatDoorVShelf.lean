/- Helps of the proof of ChartWord. -/
import Derived.Shelf.Strings.Builder1
import Derived.Shelf.Strings.Builder2
import Derived.Shelf.Strings.OnBuilder
import Derived.Shelf.Small.Strs
import Derived.Shelf.Strconv.Itoa0
import Derived.Shelf.Strconv.Itoa1
import Derived.Shelf.LaysM
import Derived.Shelf.Strconv.Itoa2
import Derived.Shelf.Strconv.Itoa3
import Derived.Shelf.Strings.Search1
import Derived.Shelf.Strings.Search2
import Derived.Shelf.Strings.Search3
import Derived.Shelf.Strings.Count
import Derived.Shelf.Strings.Shaped
import Derived.Shelf.Strings.Split
import Derived.Shelf.Strings.SplitShaped
import Derived.Shelf.Unicode.DecodeSlow
import Derived.Test.YthkbcablnpbmgaaGreatDoorProg
set_option linter.unusedVariables false
set_option linter.unusedSimpArgs false
namespace Go.Proofs
open Go.Shelf
def Tryz.lays156_ren:Go.Shelf.Ren:=⟨fun|156=>34|165=>72|166=>73|169=>74|240=>132|241=>133|276=>156|277=>157|n=>n,fun|31=>39|9=>9|3=>3|4=>4|0=>0|20=>20|72=>137|76=>140|70=>134|37=>135|75=>139|127=>189|164=>204|5=>5|80=>142|n=>n,fun|n=>n⟩
theorem Tryz.lays156:Go.Proofs.Lays.n156 Tryz.prog Tryz.lays156_ren:={
 mixed:=by kernel_rfl
 f156:=Tryz.func34.trans (congrArg some (by kernel_rfl))
 f165:=Tryz.func72.trans (congrArg some (by kernel_rfl))
 f166:=Tryz.func73.trans (congrArg some (by kernel_rfl))
 f169:=Tryz.func74.trans (congrArg some (by kernel_rfl))
 f240:=Tryz.func132.trans (congrArg some (by kernel_rfl))
 f241:=Tryz.func133.trans (congrArg some (by kernel_rfl))
 f276:=Tryz.func156.trans (congrArg some (by kernel_rfl))
 f277:=Tryz.func157.trans (congrArg some (by kernel_rfl))
 t0:=Tryz.underlying0
 a0:=Tryz.isAgg0
 z0:=Tryz.sizeOf0
 v0:=Tryz.zeroValue0
 t3:=Tryz.underlying3
 a3:=Tryz.isAgg3
 z3:=Tryz.sizeOf3
 v3:=Tryz.zeroValue3
 t4:=Tryz.underlying4
 a4:=Tryz.isAgg4
 z4:=Tryz.sizeOf4
 v4:=Tryz.zeroValue4
 t9:=Tryz.underlying9
 a9:=Tryz.isAgg9
 z9:=Tryz.sizeOf9
 v9:=Tryz.zeroValue9
 t20:=Tryz.underlying20
 a20:=Tryz.isAgg20
 z20:=Tryz.sizeOf20
 v20:=Tryz.zeroValue20
 t31:=Tryz.underlying39
 a31:=Tryz.isAgg39
 z31:=Tryz.sizeOf39
 v31:=Tryz.zeroValue39
 t37:=Tryz.underlying135
 a37:=Tryz.isAgg135
 z37:=Tryz.sizeOf135
 v37:=Tryz.zeroValue135
 t70:=Tryz.underlying134
 a70:=Tryz.isAgg134
 z70:=Tryz.sizeOf134
 v70:=Tryz.zeroValue134
 t72:=Tryz.underlying137
 a72:=Tryz.isAgg137
 z72:=Tryz.sizeOf137
 v72:=Tryz.zeroValue137
 t75:=Tryz.underlying139
 a75:=Tryz.isAgg139
 z75:=Tryz.sizeOf139
 v75:=Tryz.zeroValue139
 t76:=Tryz.underlying140
 a76:=Tryz.isAgg140
 z76:=Tryz.sizeOf140
 v76:=Tryz.zeroValue140
 t127:=Tryz.underlying189
 a127:=Tryz.isAgg189
 z127:=Tryz.sizeOf189
 v127:=Tryz.zeroValue189
 t164:=Tryz.underlying204
 a164:=Tryz.isAgg204
 z164:=Tryz.sizeOf204
 v164:=Tryz.zeroValue204 }
theorem Tryz.Builder_Extra_156:Builder.Extra Tryz.prog Tryz.lays156_ren:={
 sizeBuilder:=by kernel_rfl
 liesBuilder:=by kernel_rfl
 t5:=Tryz.underlying5
 a5:=Tryz.isAgg5
 z5:=Tryz.sizeOf5
 v5:=Tryz.zeroValue5
 infoByte:=by kernel_rfl
 cellsByte:=by kernel_rfl
 sizeByte:=by kernel_rfl
 neB5:=by decide }
open Go.RowKit in
theorem Tryz.strings_Join_none(a:Option Addr)(c:Nat)(sep:ByteArray)(w:World):
  Calls Tryz.prog 34 #[.slice a 0 c,.string sep] w fun e w'=>e= .returned (.string ⟨#[]⟩)∧w'=w:=Any.strings_Join_none Tryz.lays156 Tryz.Builder_Extra_156 a c sep w
open Go.RowKit in
theorem Tryz.strings_Join(bk o c:Nat)(xs:List ByteArray)(sep:ByteArray)(w:World)(hcells:∀(j:Nat) x,xs[j]? =some x→w.cell? ⟨bk,o+j,none⟩=some (.string x))(hbk:bk<w.heap.size)(hN:xs.length≤140737488355328)(hcap:xs.length≤c)(hlen:(Lib.join (xs.map (·.data.toList)) sep.data.toList).length≤140737488355328):
  Calls Tryz.prog 34 #[.slice (some ⟨bk,o,none⟩) xs.length c,.string sep] w fun e w'=>e= .returned (.string ⟨(Lib.join (xs.map (·.data.toList)) sep.data.toList).toArray⟩)∧Below w.heap.size w w':=Any.strings_Join Tryz.lays156 Tryz.Builder_Extra_156 bk o c xs sep w hcells hbk hN hcap hlen
def Tryz.lays137_ren:Go.Shelf.Ren:=⟨fun|137=>75|217=>134|266=>158|n=>n,fun|9=>9|5=>5|3=>3|n=>n,fun|n=>n⟩
theorem Tryz.lays137:Go.Proofs.Lays.n137 Tryz.prog Tryz.lays137_ren:={
 mixed:=by kernel_rfl
 f137:=Tryz.func75.trans (congrArg some (by kernel_rfl))
 f217:=Tryz.func134.trans (congrArg some (by kernel_rfl))
 f266:=Tryz.func158.trans (congrArg some (by kernel_rfl))
 t3:=Tryz.underlying3
 a3:=Tryz.isAgg3
 z3:=Tryz.sizeOf3
 v3:=Tryz.zeroValue3
 t5:=Tryz.underlying5
 a5:=Tryz.isAgg5
 z5:=Tryz.sizeOf5
 v5:=Tryz.zeroValue5
 t9:=Tryz.underlying9
 a9:=Tryz.isAgg9
 z9:=Tryz.sizeOf9
 v9:=Tryz.zeroValue9 }
open Go.RowKit in
theorem Tryz.strings_IndexByte(s:ByteArray)(c:Int)(w:World):
  Calls Tryz.prog 75 #[.string s,.int .u8 c] w fun e w'=>e= .returned (.int .i64 (Lib.indexByte s.data.toList c.toNat.toUInt8))∧w'=w:=Any.strings_IndexByte Tryz.lays137 s c w
def Tryz.laysM171_ren:Go.Shelf.Ren:=⟨fun|171=>83|243=>141|246=>165|283=>173|284=>174|285=>175|286=>176|129=>182|317=>181|318=>183|319=>184|320=>185|337=>187|338=>188|n=>n,fun|3=>3|9=>9|2=>2|4=>4|171=>219|0=>0|53=>220|37=>135|5=>5|173=>223|212=>226|51=>227|20=>20|213=>228|46=>225|232=>237|233=>238|n=>n,fun|17=>1|18=>4|19=>5|n=>n⟩
theorem Tryz.laysM171:Go.Proofs.LaysM.n171 Tryz.prog Tryz.laysM171_ren:={
 mixed:=by kernel_rfl
 f129:=Tryz.func182.trans (congrArg some (by kernel_rfl))
 f171:=Tryz.func83.trans (congrArg some (by kernel_rfl))
 f243:=Tryz.func141.trans (congrArg some (by kernel_rfl))
 f246:=Tryz.func165.trans (congrArg some (by kernel_rfl))
 f283:=Tryz.func173.trans (congrArg some (by kernel_rfl))
 f284:=Tryz.func174.trans (congrArg some (by kernel_rfl))
 f285:=Tryz.func175.trans (congrArg some (by kernel_rfl))
 f286:=Tryz.func176.trans (congrArg some (by kernel_rfl))
 f317:=Tryz.func181.trans (congrArg some (by kernel_rfl))
 f318:=Tryz.func183.trans (congrArg some (by kernel_rfl))
 f319:=Tryz.func184.trans (congrArg some (by kernel_rfl))
 f320:=Tryz.func185.trans (congrArg some (by kernel_rfl))
 f337:=Tryz.func187.trans (congrArg some (by kernel_rfl))
 f338:=Tryz.func188.trans (congrArg some (by kernel_rfl))
 t0:=Tryz.underlying0
 a0:=Tryz.isAgg0
 z0:=Tryz.sizeOf0
 v0:=Tryz.zeroValue0
 t2:=Tryz.underlying2
 a2:=Tryz.isAgg2
 z2:=Tryz.sizeOf2
 v2:=Tryz.zeroValue2
 t3:=Tryz.underlying3
 a3:=Tryz.isAgg3
 z3:=Tryz.sizeOf3
 v3:=Tryz.zeroValue3
 t4:=Tryz.underlying4
 a4:=Tryz.isAgg4
 z4:=Tryz.sizeOf4
 v4:=Tryz.zeroValue4
 t5:=Tryz.underlying5
 a5:=Tryz.isAgg5
 z5:=Tryz.sizeOf5
 v5:=Tryz.zeroValue5
 t9:=Tryz.underlying9
 a9:=Tryz.isAgg9
 z9:=Tryz.sizeOf9
 v9:=Tryz.zeroValue9
 t20:=Tryz.underlying20
 a20:=Tryz.isAgg20
 z20:=Tryz.sizeOf20
 v20:=Tryz.zeroValue20
 t37:=Tryz.underlying135
 a37:=Tryz.isAgg135
 z37:=Tryz.sizeOf135
 v37:=Tryz.zeroValue135
 t46:=Tryz.underlying225
 a46:=Tryz.isAgg225
 z46:=Tryz.sizeOf225
 v46:=Tryz.zeroValue225
 t51:=Tryz.underlying227
 a51:=Tryz.isAgg227
 z51:=Tryz.sizeOf227
 v51:=Tryz.zeroValue227
 t53:=Tryz.underlying220
 a53:=Tryz.isAgg220
 z53:=Tryz.sizeOf220
 v53:=Tryz.zeroValue220
 t171:=Tryz.underlying219
 a171:=Tryz.isAgg219
 z171:=Tryz.sizeOf219
 v171:=Tryz.zeroValue219
 t173:=Tryz.underlying223
 a173:=Tryz.isAgg223
 z173:=Tryz.sizeOf223
 v173:=Tryz.zeroValue223
 t212:=Tryz.underlying226
 a212:=Tryz.isAgg226
 z212:=Tryz.sizeOf226
 v212:=Tryz.zeroValue226
 t213:=Tryz.underlying228
 a213:=Tryz.isAgg228
 z213:=Tryz.sizeOf228
 t232:=Tryz.underlying237
 a232:=Tryz.isAgg237
 z232:=Tryz.sizeOf237
 v232:=Tryz.zeroValue237
 t233:=Tryz.underlying238
 a233:=Tryz.isAgg238
 z233:=Tryz.sizeOf238
 v233:=Tryz.zeroValue238
 g17:=by kernel_rfl
 g18:=by kernel_rfl
 g19:=by kernel_rfl
 i0:=by kernel_rfl
 i2:=by kernel_rfl
 i3:=by kernel_rfl
 i4:=by kernel_rfl
 i5:=by kernel_rfl
 i9:=by kernel_rfl
 i20:=by kernel_rfl
 i37:=by kernel_rfl
 i46:=by kernel_rfl
 i51:=by kernel_rfl
 i53:=by kernel_rfl
 i171:=by kernel_rfl
 i173:=by kernel_rfl
 i212:=by kernel_rfl
 i232:=by kernel_rfl
 i233:=by kernel_rfl
 m17:=by kernel_rfl
 m18:=by kernel_rfl
 m19:=by kernel_rfl }
open Go.RowKit Go.Sort Go.Lib in
theorem Tryz.strconv_Itoa(n:Int)(h0 : -9223372036854775808≤n)(h1:n≤9223372036854775807)(w:World)(htab:Lib.TabIs Tryz.prog w "internal/strconv.uint64pow10" .u64 Lib.pow10Tab):
  Calls Tryz.prog 83 #[.int .i64 n] w fun e w'=>e= .returned (.string ⟨(Lib.itoa n).toArray⟩)∧∃k os,w'=grow (w.drewN k) os:=Any.strconv_Itoa Tryz.laysM171 n h0 h1 w htab
def Tryz.laysM146_ren:Go.Shelf.Ren:=⟨fun|146=>76|221=>135|268=>159|138=>160|143=>161|195=>169|197=>170|218=>171|219=>172|260=>177|217=>134|225=>178|224=>179|267=>180|266=>158|314=>186|n=>n,fun|9=>9|31=>39|3=>3|4=>4|0=>0|105=>217|21=>21|5=>5|46=>225|119=>230|139=>233|138=>232|146=>234|51=>227|n=>n,fun|1=>0|3=>2|4=>3|n=>n⟩
theorem Tryz.laysM146:Go.Proofs.LaysM.n146 Tryz.prog Tryz.laysM146_ren:={
 mixed:=by kernel_rfl
 f138:=Tryz.func160.trans (congrArg some (by kernel_rfl))
 f143:=Tryz.func161.trans (congrArg some (by kernel_rfl))
 f146:=Tryz.func76.trans (congrArg some (by kernel_rfl))
 f195:=Tryz.func169.trans (congrArg some (by kernel_rfl))
 f197:=Tryz.func170.trans (congrArg some (by kernel_rfl))
 f217:=Tryz.func134.trans (congrArg some (by kernel_rfl))
 f218:=Tryz.func171.trans (congrArg some (by kernel_rfl))
 f219:=Tryz.func172.trans (congrArg some (by kernel_rfl))
 f221:=Tryz.func135.trans (congrArg some (by kernel_rfl))
 f224:=Tryz.func179.trans (congrArg some (by kernel_rfl))
 f225:=Tryz.func178.trans (congrArg some (by kernel_rfl))
 f260:=Tryz.func177.trans (congrArg some (by kernel_rfl))
 f266:=Tryz.func158.trans (congrArg some (by kernel_rfl))
 f267:=Tryz.func180.trans (congrArg some (by kernel_rfl))
 f268:=Tryz.func159.trans (congrArg some (by kernel_rfl))
 f314:=Tryz.func186.trans (congrArg some (by kernel_rfl))
 t0:=Tryz.underlying0
 a0:=Tryz.isAgg0
 z0:=Tryz.sizeOf0
 v0:=Tryz.zeroValue0
 t3:=Tryz.underlying3
 a3:=Tryz.isAgg3
 z3:=Tryz.sizeOf3
 v3:=Tryz.zeroValue3
 t4:=Tryz.underlying4
 a4:=Tryz.isAgg4
 z4:=Tryz.sizeOf4
 v4:=Tryz.zeroValue4
 t5:=Tryz.underlying5
 a5:=Tryz.isAgg5
 z5:=Tryz.sizeOf5
 v5:=Tryz.zeroValue5
 t9:=Tryz.underlying9
 a9:=Tryz.isAgg9
 z9:=Tryz.sizeOf9
 v9:=Tryz.zeroValue9
 t21:=Tryz.underlying21
 a21:=Tryz.isAgg21
 z21:=Tryz.sizeOf21
 v21:=Tryz.zeroValue21
 t31:=Tryz.underlying39
 a31:=Tryz.isAgg39
 z31:=Tryz.sizeOf39
 v31:=Tryz.zeroValue39
 t46:=Tryz.underlying225
 a46:=Tryz.isAgg225
 z46:=Tryz.sizeOf225
 v46:=Tryz.zeroValue225
 t51:=Tryz.underlying227
 a51:=Tryz.isAgg227
 z51:=Tryz.sizeOf227
 v51:=Tryz.zeroValue227
 t105:=Tryz.underlying217
 a105:=Tryz.isAgg217
 z105:=Tryz.sizeOf217
 v105:=Tryz.zeroValue217
 t119:=Tryz.underlying230
 a119:=Tryz.isAgg230
 z119:=Tryz.sizeOf230
 t138:=Tryz.underlying232
 a138:=Tryz.isAgg232
 z138:=Tryz.sizeOf232
 v138:=Tryz.zeroValue232
 t139:=Tryz.underlying233
 a139:=Tryz.isAgg233
 z139:=Tryz.sizeOf233
 v139:=Tryz.zeroValue233
 t146:=Tryz.underlying234
 a146:=Tryz.isAgg234
 z146:=Tryz.sizeOf234
 v146:=Tryz.zeroValue234
 g1:=by kernel_rfl
 g3:=by kernel_rfl
 g4:=by kernel_rfl
 i0:=by kernel_rfl
 i3:=by kernel_rfl
 i4:=by kernel_rfl
 i5:=by kernel_rfl
 i9:=by kernel_rfl
 i21:=by kernel_rfl
 i31:=by kernel_rfl
 i46:=by kernel_rfl
 i51:=by kernel_rfl
 i105:=by kernel_rfl
 i138:=by kernel_rfl
 i139:=by kernel_rfl
 i146:=by kernel_rfl
 m1:=by kernel_rfl
 s1_3:=fun w h=>Go.Proofs.cell_of_shapedOpen_int (zero:=#[.int .i64 0]) (t:=3) h (of_decide_eq_true (by kernel_rfl)) (by kernel_rfl) rfl (by kernel_rfl) (by kernel_rfl) Tryz.underlying3
 m3:=by kernel_rfl
 m4:=by kernel_rfl }
open Go.RowKit Go.Lib in
theorem Tryz.strings_Split_shaped(s sep:ByteArray)(w:World)(h:w.ShapedOpen Tryz.prog)(hs:s.size<4294967281)(h1:1≤sep.size):
  Calls Tryz.prog 76 #[.string s,.string sep] w fun e w'=>
   e= .returned (.slice (some ⟨w.heap.size,0,none⟩) (Lib.countB s sep+1) (Lib.countB s sep+1))∧w'=w.alloc (.cells ((Lib.splitB sep 0 (Lib.countB s sep) s).map Value.string).toArray 9):=Any.strings_Split_shaped Tryz.laysM146 s sep w h hs h1
end Go.Proofs
