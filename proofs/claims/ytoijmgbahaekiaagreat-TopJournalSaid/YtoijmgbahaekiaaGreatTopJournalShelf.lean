import Derived.Shelf.Strings.Repeat
import Derived.Shelf.Small.Strs
import Derived.Below
import Derived.Test.YtoijmgbahaekiaaGreatProg
namespace Go.Proofs
open Go.Shelf Go.RowKit Go.Lib
def Tryz.lays105_ren:Go.Shelf.Ren:=⟨fun|105=>60|212=>151|99=>152|165=>153|166=>72|170=>154|169=>73|263=>251|264=>252|206=>253|240=>159|241=>254|276=>258|277=>337|n=>n,fun|9=>9|3=>3|4=>4|20=>20|0=>0|46=>114|109=>271|5=>5|72=>181|76=>184|51=>25|146=>385|53=>41|148=>212|70=>179|37=>115|75=>183|127=>279|164=>390|80=>186|n=>n,fun|n=>n⟩
theorem Tryz.lays105:Go.Proofs.Lays.n105 Tryz.prog Tryz.lays105_ren:={
 mixed:=by kernel_rfl
 f99:=Tryz.func152.trans (congrArg some (by kernel_rfl))
 f105:=Tryz.func60.trans (congrArg some (by kernel_rfl))
 f165:=Tryz.func153.trans (congrArg some (by kernel_rfl))
 f166:=Tryz.func72.trans (congrArg some (by kernel_rfl))
 f169:=Tryz.func73.trans (congrArg some (by kernel_rfl))
 f170:=Tryz.func154.trans (congrArg some (by kernel_rfl))
 f206:=Tryz.func253.trans (congrArg some (by kernel_rfl))
 f212:=Tryz.func151.trans (congrArg some (by kernel_rfl))
 f240:=Tryz.func159.trans (congrArg some (by kernel_rfl))
 f241:=Tryz.func254.trans (congrArg some (by kernel_rfl))
 f263:=Tryz.func251.trans (congrArg some (by kernel_rfl))
 f264:=Tryz.func252.trans (congrArg some (by kernel_rfl))
 f276:=Tryz.func258.trans (congrArg some (by kernel_rfl))
 f277:=Tryz.func337.trans (congrArg some (by kernel_rfl))
 t0:=Tryz.underlying0
 a0:=Tryz.isAgg0
 z0:=Tryz.sizeOf0
 v0:=Tryz.zeroValue0
 t3:=Tryz.underlying3
 a3:=Tryz.isAgg3
 z3:=Tryz.sizeOf3
 v3:=Tryz.zeroValue3
 t4:=Tryz.underlying4
 a4:=Tryz.isAgg4
 z4:=Tryz.sizeOf4
 v4:=Tryz.zeroValue4
 t5:=Tryz.underlying5
 a5:=Tryz.isAgg5
 z5:=Tryz.sizeOf5
 v5:=Tryz.zeroValue5
 t9:=Tryz.underlying9
 a9:=Tryz.isAgg9
 z9:=Tryz.sizeOf9
 v9:=Tryz.zeroValue9
 t20:=Tryz.underlying20
 a20:=Tryz.isAgg20
 z20:=Tryz.sizeOf20
 v20:=Tryz.zeroValue20
 t37:=Tryz.underlying115
 a37:=Tryz.isAgg115
 z37:=Tryz.sizeOf115
 v37:=Tryz.zeroValue115
 t46:=Tryz.underlying114
 a46:=Tryz.isAgg114
 z46:=Tryz.sizeOf114
 v46:=Tryz.zeroValue114
 t51:=Tryz.underlying25
 a51:=Tryz.isAgg25
 z51:=Tryz.sizeOf25
 v51:=Tryz.zeroValue25
 t53:=Tryz.underlying41
 a53:=Tryz.isAgg41
 z53:=Tryz.sizeOf41
 v53:=Tryz.zeroValue41
 t70:=Tryz.underlying179
 a70:=Tryz.isAgg179
 z70:=Tryz.sizeOf179
 v70:=Tryz.zeroValue179
 t72:=Tryz.underlying181
 a72:=Tryz.isAgg181
 z72:=Tryz.sizeOf181
 v72:=Tryz.zeroValue181
 t75:=Tryz.underlying183
 a75:=Tryz.isAgg183
 z75:=Tryz.sizeOf183
 v75:=Tryz.zeroValue183
 t76:=Tryz.underlying184
 a76:=Tryz.isAgg184
 z76:=Tryz.sizeOf184
 v76:=Tryz.zeroValue184
 t109:=Tryz.underlying271
 a109:=Tryz.isAgg271
 z109:=Tryz.sizeOf271
 v109:=Tryz.zeroValue271
 t127:=Tryz.underlying279
 a127:=Tryz.isAgg279
 z127:=Tryz.sizeOf279
 v127:=Tryz.zeroValue279
 t146:=Tryz.underlying385
 a146:=Tryz.isAgg385
 z146:=Tryz.sizeOf385
 v146:=Tryz.zeroValue385
 t148:=Tryz.underlying212
 a148:=Tryz.isAgg212
 z148:=Tryz.sizeOf212
 v148:=Tryz.zeroValue212
 t164:=Tryz.underlying390
 a164:=Tryz.isAgg390
 z164:=Tryz.sizeOf390
 v164:=Tryz.zeroValue390}
theorem Tryz.Builder_Extra_105:Builder.Extra Tryz.prog Tryz.lays105_ren:={
 sizeBuilder:=by kernel_rfl
 liesBuilder:=by kernel_rfl
 t5:=Tryz.underlying5
 a5:=Tryz.isAgg5
 z5:=Tryz.sizeOf5
 v5:=Tryz.zeroValue5
 infoByte:=by kernel_rfl
 cellsByte:=by kernel_rfl
 sizeByte:=by kernel_rfl
 neB5:=by decide}
theorem Tryz.strings_Repeat(s:ByteArray)(c:Nat)(w:World)(hc:c<=9223372036854775807)(hlen:s.size*c<=140737488355328):
 Calls Tryz.prog 60 #[.string s,.int .i64 c] w λe w'=>e=.returned (.string ⟨(Lib.repeatL s.data.toList c).toArray⟩)/\Below w.heap.size w w':=Any.strings_Repeat Tryz.lays105 Tryz.Builder_Extra_105 s c w hc hlen
def Tryz.lays106_ren:Go.Shelf.Ren:=⟨fun|106=>302|213=>371|265=>397|n=>n,fun|9=>9|3=>3|n=>n,fun|n=>n⟩
theorem Tryz.lays106:Go.Proofs.Lays.n106 Tryz.prog Tryz.lays106_ren:={
 mixed:=by kernel_rfl
 f106:=Tryz.func302.trans (congrArg some (by kernel_rfl))
 f213:=Tryz.func371.trans (congrArg some (by kernel_rfl))
 f265:=Tryz.func397.trans (congrArg some (by kernel_rfl))
 t3:=Tryz.underlying3
 a3:=Tryz.isAgg3
 z3:=Tryz.sizeOf3
 v3:=Tryz.zeroValue3
 t9:=Tryz.underlying9
 a9:=Tryz.isAgg9
 z9:=Tryz.sizeOf9
 v9:=Tryz.zeroValue9}
theorem Tryz.strings_Compare(a b:ByteArray)(w:World):
 Calls Tryz.prog 302 #[.string a,.string b] w λe w'=>e=.returned (.int .i64 (Lib.compareBytes a.data.toList b.data.toList))/\w'=w:=Any.strings_Compare Tryz.lays106 a b w
