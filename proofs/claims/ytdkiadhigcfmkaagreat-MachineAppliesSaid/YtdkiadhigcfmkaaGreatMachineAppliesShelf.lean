/-
  The library's contract of strings.Repeat, laid at this program (by the kit's lay-shelf.mjs and lay-plain.mjs).
-/
import Derived.Shelf.Strings.Repeat
import Derived.Test.YtdkiadhigcfmkaaGreatProg
namespace Go.Proofs
open Go.Shelf Go.RowKit Go.Lib
def Tryz.lays105_ren:Go.Shelf.Ren:=⟨fun|105=>182|212=>224|99=>225|165=>226|166=>153|170=>227|169=>84|263=>258|264=>259|206=>260|240=>205|241=>261|276=>248|277=>265|n=>n,fun|9=>9|3=>3|4=>4|20=>20|0=>0|46=>70|109=>283|5=>5|72=>129|76=>211|51=>27|146=>278|53=>42|148=>202|70=>127|37=>85|75=>210|127=>213|164=>295|80=>136|n=>n,fun|n=>n⟩
theorem Tryz.lays105:Go.Proofs.Lays.n105 Tryz.prog Tryz.lays105_ren:={
 mixed:=by kernel_rfl
 f99:=Tryz.func225.trans (congrArg some (by kernel_rfl))
 f105:=Tryz.func182.trans (congrArg some (by kernel_rfl))
 f165:=Tryz.func226.trans (congrArg some (by kernel_rfl))
 f166:=Tryz.func153.trans (congrArg some (by kernel_rfl))
 f169:=Tryz.func84.trans (congrArg some (by kernel_rfl))
 f170:=Tryz.func227.trans (congrArg some (by kernel_rfl))
 f206:=Tryz.func260.trans (congrArg some (by kernel_rfl))
 f212:=Tryz.func224.trans (congrArg some (by kernel_rfl))
 f240:=Tryz.func205.trans (congrArg some (by kernel_rfl))
 f241:=Tryz.func261.trans (congrArg some (by kernel_rfl))
 f263:=Tryz.func258.trans (congrArg some (by kernel_rfl))
 f264:=Tryz.func259.trans (congrArg some (by kernel_rfl))
 f276:=Tryz.func248.trans (congrArg some (by kernel_rfl))
 f277:=Tryz.func265.trans (congrArg some (by kernel_rfl))
 t0:=Tryz.underlying0
 a0:=Tryz.isAgg0
 z0:=Tryz.sizeOf0
 v0:=Tryz.zeroValue0
 t3:=Tryz.underlying3
 a3:=Tryz.isAgg3
 z3:=Tryz.sizeOf3
 v3:=Tryz.zeroValue3
 t4:=Tryz.underlying4
 a4:=Tryz.isAgg4
 z4:=Tryz.sizeOf4
 v4:=Tryz.zeroValue4
 t5:=Tryz.underlying5
 a5:=Tryz.isAgg5
 z5:=Tryz.sizeOf5
 v5:=Tryz.zeroValue5
 t9:=Tryz.underlying9
 a9:=Tryz.isAgg9
 z9:=Tryz.sizeOf9
 v9:=Tryz.zeroValue9
 t20:=Tryz.underlying20
 a20:=Tryz.isAgg20
 z20:=Tryz.sizeOf20
 v20:=Tryz.zeroValue20
 t37:=Tryz.underlying85
 a37:=Tryz.isAgg85
 z37:=Tryz.sizeOf85
 v37:=Tryz.zeroValue85
 t46:=Tryz.underlying70
 a46:=Tryz.isAgg70
 z46:=Tryz.sizeOf70
 v46:=Tryz.zeroValue70
 t51:=Tryz.underlying27
 a51:=Tryz.isAgg27
 z51:=Tryz.sizeOf27
 v51:=Tryz.zeroValue27
 t53:=Tryz.underlying42
 a53:=Tryz.isAgg42
 z53:=Tryz.sizeOf42
 v53:=Tryz.zeroValue42
 t70:=Tryz.underlying127
 a70:=Tryz.isAgg127
 z70:=Tryz.sizeOf127
 v70:=Tryz.zeroValue127
 t72:=Tryz.underlying129
 a72:=Tryz.isAgg129
 z72:=Tryz.sizeOf129
 v72:=Tryz.zeroValue129
 t75:=Tryz.underlying210
 a75:=Tryz.isAgg210
 z75:=Tryz.sizeOf210
 v75:=Tryz.zeroValue210
 t76:=Tryz.underlying211
 a76:=Tryz.isAgg211
 z76:=Tryz.sizeOf211
 v76:=Tryz.zeroValue211
 t109:=Tryz.underlying283
 a109:=Tryz.isAgg283
 z109:=Tryz.sizeOf283
 v109:=Tryz.zeroValue283
 t127:=Tryz.underlying213
 a127:=Tryz.isAgg213
 z127:=Tryz.sizeOf213
 v127:=Tryz.zeroValue213
 t146:=Tryz.underlying278
 a146:=Tryz.isAgg278
 z146:=Tryz.sizeOf278
 v146:=Tryz.zeroValue278
 t148:=Tryz.underlying202
 a148:=Tryz.isAgg202
 z148:=Tryz.sizeOf202
 v148:=Tryz.zeroValue202
 t164:=Tryz.underlying295
 a164:=Tryz.isAgg295
 z164:=Tryz.sizeOf295
 v164:=Tryz.zeroValue295}
theorem Tryz.Builder_Extra_105:Builder.Extra Tryz.prog Tryz.lays105_ren:={
 sizeBuilder:=by kernel_rfl
 liesBuilder:=by kernel_rfl
 t5:=Tryz.underlying5
 a5:=Tryz.isAgg5
 z5:=Tryz.sizeOf5
 v5:=Tryz.zeroValue5
 infoByte:=by kernel_rfl
 cellsByte:=by kernel_rfl
 sizeByte:=by kernel_rfl
 neB5:=by decide}
theorem Tryz.strings_Repeat(s:ByteArray)(c:Nat)(w:World)(hc:c≤9223372036854775807)(hlen:s.size*c≤140737488355328):
   Calls Tryz.prog 182 #[.string s, .int .i64 c] w fun e w'=>e= .returned (.string ⟨(Lib.repeatL s.data.toList c).toArray⟩)∧Below w.heap.size w w':=Any.strings_Repeat Tryz.lays105 Tryz.Builder_Extra_105 s c w hc hlen
end Go.Proofs
