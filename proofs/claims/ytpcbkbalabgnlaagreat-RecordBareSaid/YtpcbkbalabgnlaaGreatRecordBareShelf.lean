/-
  The library's contract of strings.Repeat, laid at this program (by the kit's lay-shelf.mjs and lay-plain.mjs).
-/
import Derived.Shelf.Strings.Repeat
import Derived.Test.YtpcbkbalabgnlaaGreatProg
namespace Go.Proofs
open Go.Shelf Go.RowKit Go.Lib
def Tryz.lays105_ren:Go.Shelf.Ren:=⟨fun|105=>197|212=>236|99=>237|165=>238|166=>239|170=>240|169=>241|263=>248|264=>249|206=>250|240=>251|241=>252|276=>254|277=>255|n=>n,fun|9=>9|3=>3|4=>4|20=>20|0=>0|46=>94|109=>270|5=>5|72=>275|76=>279|51=>23|146=>254|53=>39|148=>139|70=>273|37=>138|75=>278|127=>287|164=>289|80=>282|n=>n,fun|n=>n⟩
theorem Tryz.lays105:Go.Proofs.Lays.n105 Tryz.prog Tryz.lays105_ren:={
 mixed:=by kernel_rfl
 f99:=Tryz.func237.trans (congrArg some (by kernel_rfl))
 f105:=Tryz.func197.trans (congrArg some (by kernel_rfl))
 f165:=Tryz.func238.trans (congrArg some (by kernel_rfl))
 f166:=Tryz.func239.trans (congrArg some (by kernel_rfl))
 f169:=Tryz.func241.trans (congrArg some (by kernel_rfl))
 f170:=Tryz.func240.trans (congrArg some (by kernel_rfl))
 f206:=Tryz.func250.trans (congrArg some (by kernel_rfl))
 f212:=Tryz.func236.trans (congrArg some (by kernel_rfl))
 f240:=Tryz.func251.trans (congrArg some (by kernel_rfl))
 f241:=Tryz.func252.trans (congrArg some (by kernel_rfl))
 f263:=Tryz.func248.trans (congrArg some (by kernel_rfl))
 f264:=Tryz.func249.trans (congrArg some (by kernel_rfl))
 f276:=Tryz.func254.trans (congrArg some (by kernel_rfl))
 f277:=Tryz.func255.trans (congrArg some (by kernel_rfl))
 t0:=Tryz.underlying0
 a0:=Tryz.isAgg0
 z0:=Tryz.sizeOf0
 v0:=Tryz.zeroValue0
 t3:=Tryz.underlying3
 a3:=Tryz.isAgg3
 z3:=Tryz.sizeOf3
 v3:=Tryz.zeroValue3
 t4:=Tryz.underlying4
 a4:=Tryz.isAgg4
 z4:=Tryz.sizeOf4
 v4:=Tryz.zeroValue4
 t5:=Tryz.underlying5
 a5:=Tryz.isAgg5
 z5:=Tryz.sizeOf5
 v5:=Tryz.zeroValue5
 t9:=Tryz.underlying9
 a9:=Tryz.isAgg9
 z9:=Tryz.sizeOf9
 v9:=Tryz.zeroValue9
 t20:=Tryz.underlying20
 a20:=Tryz.isAgg20
 z20:=Tryz.sizeOf20
 v20:=Tryz.zeroValue20
 t37:=Tryz.underlying138
 a37:=Tryz.isAgg138
 z37:=Tryz.sizeOf138
 v37:=Tryz.zeroValue138
 t46:=Tryz.underlying94
 a46:=Tryz.isAgg94
 z46:=Tryz.sizeOf94
 v46:=Tryz.zeroValue94
 t51:=Tryz.underlying23
 a51:=Tryz.isAgg23
 z51:=Tryz.sizeOf23
 v51:=Tryz.zeroValue23
 t53:=Tryz.underlying39
 a53:=Tryz.isAgg39
 z53:=Tryz.sizeOf39
 v53:=Tryz.zeroValue39
 t70:=Tryz.underlying273
 a70:=Tryz.isAgg273
 z70:=Tryz.sizeOf273
 v70:=Tryz.zeroValue273
 t72:=Tryz.underlying275
 a72:=Tryz.isAgg275
 z72:=Tryz.sizeOf275
 v72:=Tryz.zeroValue275
 t75:=Tryz.underlying278
 a75:=Tryz.isAgg278
 z75:=Tryz.sizeOf278
 v75:=Tryz.zeroValue278
 t76:=Tryz.underlying279
 a76:=Tryz.isAgg279
 z76:=Tryz.sizeOf279
 v76:=Tryz.zeroValue279
 t109:=Tryz.underlying270
 a109:=Tryz.isAgg270
 z109:=Tryz.sizeOf270
 v109:=Tryz.zeroValue270
 t127:=Tryz.underlying287
 a127:=Tryz.isAgg287
 z127:=Tryz.sizeOf287
 v127:=Tryz.zeroValue287
 t146:=Tryz.underlying254
 a146:=Tryz.isAgg254
 z146:=Tryz.sizeOf254
 v146:=Tryz.zeroValue254
 t148:=Tryz.underlying139
 a148:=Tryz.isAgg139
 z148:=Tryz.sizeOf139
 v148:=Tryz.zeroValue139
 t164:=Tryz.underlying289
 a164:=Tryz.isAgg289
 z164:=Tryz.sizeOf289
 v164:=Tryz.zeroValue289}
theorem Tryz.Builder_Extra_105:Builder.Extra Tryz.prog Tryz.lays105_ren:={
 sizeBuilder:=by kernel_rfl
 liesBuilder:=by kernel_rfl
 t5:=Tryz.underlying5
 a5:=Tryz.isAgg5
 z5:=Tryz.sizeOf5
 v5:=Tryz.zeroValue5
 infoByte:=by kernel_rfl
 cellsByte:=by kernel_rfl
 sizeByte:=by kernel_rfl
 neB5:=by decide}
theorem Tryz.strings_Repeat(s:ByteArray)(c:Nat)(w:World)(hc:c≤9223372036854775807)(hlen:s.size*c≤140737488355328):
   Calls Tryz.prog 197 #[.string s, .int .i64 c] w λe w'=>e= .returned (.string ⟨(Lib.repeatL s.data.toList c).toArray⟩)∧Below w.heap.size w w':=Any.strings_Repeat Tryz.lays105 Tryz.Builder_Extra_105 s c w hc hlen
end Go.Proofs
