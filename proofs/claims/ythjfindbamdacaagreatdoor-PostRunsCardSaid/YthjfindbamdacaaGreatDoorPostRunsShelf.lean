import Derived.Shelf.Strings.Repeat
import Derived.Shelf.Spec.TrailingZeros
import Derived.Below
import Derived.Test.YthjfindbamdacaaGreatDoorProg
import Derived.Test.YthjfindbamdacaaGreatDoorPostRunsFy
namespace Go.Proofs
open Go.Shelf Go.RowKit Go.Lib
def Tryz.lays105_ren:Go.Shelf.Ren:=⟨fun|105=>194|212=>255|99=>256|165=>257|166=>258|170=>259|169=>230|263=>298|264=>299|206=>300|240=>301|241=>302|276=>310|277=>311|n=>n,fun|9=>9|3=>3|4=>4|20=>20|0=>0|46=>49|109=>324|5=>5|72=>291|76=>330|51=>23|146=>319|53=>40|148=>199|70=>289|37=>123|75=>329|127=>342|164=>355|80=>298|n=>n,fun|n=>n⟩
theorem Tryz.lays105:Go.Proofs.Lays.n105 Tryz.prog Tryz.lays105_ren:={
 mixed:=by kernel_rfl
 f99:=Tryz.func256.trans (congrArg some (by kernel_rfl))
 f105:=Tryz.func194.trans (congrArg some (by kernel_rfl))
 f165:=Tryz.func257.trans (congrArg some (by kernel_rfl))
 f166:=Tryz.func258.trans (congrArg some (by kernel_rfl))
 f169:=Tryz.func230.trans (congrArg some (by kernel_rfl))
 f170:=Tryz.func259.trans (congrArg some (by kernel_rfl))
 f206:=Tryz.func300.trans (congrArg some (by kernel_rfl))
 f212:=Tryz.func255.trans (congrArg some (by kernel_rfl))
 f240:=Tryz.func301.trans (congrArg some (by kernel_rfl))
 f241:=Tryz.func302.trans (congrArg some (by kernel_rfl))
 f263:=Tryz.func298.trans (congrArg some (by kernel_rfl))
 f264:=Tryz.func299.trans (congrArg some (by kernel_rfl))
 f276:=Tryz.func310.trans (congrArg some (by kernel_rfl))
 f277:=Tryz.func311.trans (congrArg some (by kernel_rfl))
 t0:=Tryz.underlying0
 a0:=Tryz.isAgg0
 z0:=Tryz.sizeOf0
 v0:=Tryz.zeroValue0
 t3:=Tryz.underlying3
 a3:=Tryz.isAgg3
 z3:=Tryz.sizeOf3
 v3:=Tryz.zeroValue3
 t4:=Tryz.underlying4
 a4:=Tryz.isAgg4
 z4:=Tryz.sizeOf4
 v4:=Tryz.zeroValue4
 t5:=Tryz.underlying5
 a5:=Tryz.isAgg5
 z5:=Tryz.sizeOf5
 v5:=Tryz.zeroValue5
 t9:=Tryz.underlying9
 a9:=Tryz.isAgg9
 z9:=Tryz.sizeOf9
 v9:=Tryz.zeroValue9
 t20:=Tryz.underlying20
 a20:=Tryz.isAgg20
 z20:=Tryz.sizeOf20
 v20:=Tryz.zeroValue20
 t37:=Tryz.underlying123
 a37:=Tryz.isAgg123
 z37:=Tryz.sizeOf123
 v37:=Tryz.zeroValue123
 t46:=Tryz.underlying49
 a46:=Tryz.isAgg49
 z46:=Tryz.sizeOf49
 v46:=Tryz.zeroValue49
 t51:=Tryz.underlying23
 a51:=Tryz.isAgg23
 z51:=Tryz.sizeOf23
 v51:=Tryz.zeroValue23
 t53:=Tryz.underlying40
 a53:=Tryz.isAgg40
 z53:=Tryz.sizeOf40
 v53:=Tryz.zeroValue40
 t70:=Tryz.underlying289
 a70:=Tryz.isAgg289
 z70:=Tryz.sizeOf289
 v70:=Tryz.zeroValue289
 t72:=Tryz.underlying291
 a72:=Tryz.isAgg291
 z72:=Tryz.sizeOf291
 v72:=Tryz.zeroValue291
 t75:=Tryz.underlying329
 a75:=Tryz.isAgg329
 z75:=Tryz.sizeOf329
 v75:=Tryz.zeroValue329
 t76:=Tryz.underlying330
 a76:=Tryz.isAgg330
 z76:=Tryz.sizeOf330
 v76:=Tryz.zeroValue330
 t109:=Tryz.underlying324
 a109:=Tryz.isAgg324
 z109:=Tryz.sizeOf324
 v109:=Tryz.zeroValue324
 t127:=Tryz.underlying342
 a127:=Tryz.isAgg342
 z127:=Tryz.sizeOf342
 v127:=Tryz.zeroValue342
 t146:=Tryz.underlying319
 a146:=Tryz.isAgg319
 z146:=Tryz.sizeOf319
 v146:=Tryz.zeroValue319
 t148:=Tryz.underlying199
 a148:=Tryz.isAgg199
 z148:=Tryz.sizeOf199
 v148:=Tryz.zeroValue199
 t164:=Tryz.underlying355
 a164:=Tryz.isAgg355
 z164:=Tryz.sizeOf355
 v164:=Tryz.zeroValue355}
theorem Tryz.Builder_Extra_105:Builder.Extra Tryz.prog Tryz.lays105_ren:={
 sizeBuilder:=by kernel_rfl
 liesBuilder:=by kernel_rfl
 t5:=Tryz.underlying5
 a5:=Tryz.isAgg5
 z5:=Tryz.sizeOf5
 v5:=Tryz.zeroValue5
 infoByte:=by kernel_rfl
 cellsByte:=by kernel_rfl
 sizeByte:=by kernel_rfl
 neB5:=by decide}
theorem Tryz.strings_Repeat(s:ByteArray)(c:Nat)(w:World)(hc:c<=9223372036854775807)(hlen:s.size*c<=140737488355328):
 Calls Tryz.prog 194 #[.string s,.int .i64 c] w λe w'=>e=.returned (.string ⟨(Lib.repeatL s.data.toList c).toArray⟩)/\Below w.heap.size w w':=Any.strings_Repeat Tryz.lays105 Tryz.Builder_Extra_105 s c w hc hlen
def Tryz.lays7_ren:Go.Shelf.Ren:=⟨fun|28=>78|n=>n,fun|25=>49|27=>23|53=>222|n=>n,fun|0=>0|n=>n⟩
theorem Tryz.lays7:Go.Proofs.Lays7.n28 Tryz.prog Tryz.lays7_ren:={
 mixed:=by kernel_rfl
 f28:=Tryz.func78.trans (congrArg some (by kernel_rfl))
 g0:=by kernel_rfl
 t0:=Tryz.underlying0
 a0:=Tryz.isAgg0
 z0:=Tryz.sizeOf0
 v0:=Tryz.zeroValue0
 i0:=by kernel_rfl
 t3:=Tryz.underlying3
 a3:=Tryz.isAgg3
 z3:=Tryz.sizeOf3
 v3:=Tryz.zeroValue3
 i3:=by kernel_rfl
 t4:=Tryz.underlying4
 a4:=Tryz.isAgg4
 z4:=Tryz.sizeOf4
 v4:=Tryz.zeroValue4
 i4:=by kernel_rfl
 t5:=Tryz.underlying5
 a5:=Tryz.isAgg5
 z5:=Tryz.sizeOf5
 v5:=Tryz.zeroValue5
 i5:=by kernel_rfl
 t25:=Tryz.underlying49
 a25:=Tryz.isAgg49
 z25:=Tryz.sizeOf49
 v25:=Tryz.zeroValue49
 i25:=by kernel_rfl
 t27:=Tryz.underlying23
 a27:=Tryz.isAgg23
 z27:=Tryz.sizeOf23
 v27:=Tryz.zeroValue23
 i27:=by kernel_rfl
 t53:=Tryz.underlying222
 a53:=Tryz.isAgg222
 z53:=Tryz.sizeOf222
 v53:=Tryz.zeroValue222
 i53:=by kernel_rfl}
end Go.Proofs
namespace Go.GD
open Go
theorem zx:(0,IntKind.u8,Lib.deBruijn32tab.map λ(n:Nat)=>(n:Int))∈gtabs:=by decide+kernel
