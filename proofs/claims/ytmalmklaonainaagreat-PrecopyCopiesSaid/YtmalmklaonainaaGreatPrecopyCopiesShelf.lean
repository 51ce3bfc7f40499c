/-
  The library's contract of strings.Repeat, laid at this program (by the kit's lay-shelf.mjs and lay-plain.mjs).
-/
import Derived.Shelf.Strings.Repeat
import Derived.Test.YtmalmklaonainaaGreatProg
namespace Go.Proofs
open Go.Shelf Go.RowKit Go.Lib
def Tryz.lays105_ren:Go.Shelf.Ren:=⟨fun|105=>253|212=>288|99=>289|165=>290|166=>169|170=>291|169=>90|263=>311|264=>312|206=>313|240=>226|241=>314|276=>271|277=>316|n=>n,fun|9=>9|3=>3|4=>4|20=>20|0=>0|46=>132|109=>348|5=>5|72=>146|76=>235|51=>25|146=>338|53=>41|148=>226|70=>144|37=>55|75=>234|127=>237|164=>327|80=>153|n=>n,fun|n=>n⟩
theorem Tryz.lays105:Go.Proofs.Lays.n105 Tryz.prog Tryz.lays105_ren:={
 mixed:=by kernel_rfl
 f99:=Tryz.func289.trans (congrArg some (by kernel_rfl))
 f105:=Tryz.func253.trans (congrArg some (by kernel_rfl))
 f165:=Tryz.func290.trans (congrArg some (by kernel_rfl))
 f166:=Tryz.func169.trans (congrArg some (by kernel_rfl))
 f169:=Tryz.func90.trans (congrArg some (by kernel_rfl))
 f170:=Tryz.func291.trans (congrArg some (by kernel_rfl))
 f206:=Tryz.func313.trans (congrArg some (by kernel_rfl))
 f212:=Tryz.func288.trans (congrArg some (by kernel_rfl))
 f240:=Tryz.func226.trans (congrArg some (by kernel_rfl))
 f241:=Tryz.func314.trans (congrArg some (by kernel_rfl))
 f263:=Tryz.func311.trans (congrArg some (by kernel_rfl))
 f264:=Tryz.func312.trans (congrArg some (by kernel_rfl))
 f276:=Tryz.func271.trans (congrArg some (by kernel_rfl))
 f277:=Tryz.func316.trans (congrArg some (by kernel_rfl))
 t0:=Tryz.underlying0
 a0:=Tryz.isAgg0
 z0:=Tryz.sizeOf0
 v0:=Tryz.zeroValue0
 t3:=Tryz.underlying3
 a3:=Tryz.isAgg3
 z3:=Tryz.sizeOf3
 v3:=Tryz.zeroValue3
 t4:=Tryz.underlying4
 a4:=Tryz.isAgg4
 z4:=Tryz.sizeOf4
 v4:=Tryz.zeroValue4
 t5:=Tryz.underlying5
 a5:=Tryz.isAgg5
 z5:=Tryz.sizeOf5
 v5:=Tryz.zeroValue5
 t9:=Tryz.underlying9
 a9:=Tryz.isAgg9
 z9:=Tryz.sizeOf9
 v9:=Tryz.zeroValue9
 t20:=Tryz.underlying20
 a20:=Tryz.isAgg20
 z20:=Tryz.sizeOf20
 v20:=Tryz.zeroValue20
 t37:=Tryz.underlying55
 a37:=Tryz.isAgg55
 z37:=Tryz.sizeOf55
 v37:=Tryz.zeroValue55
 t46:=Tryz.underlying132
 a46:=Tryz.isAgg132
 z46:=Tryz.sizeOf132
 v46:=Tryz.zeroValue132
 t51:=Tryz.underlying25
 a51:=Tryz.isAgg25
 z51:=Tryz.sizeOf25
 v51:=Tryz.zeroValue25
 t53:=Tryz.underlying41
 a53:=Tryz.isAgg41
 z53:=Tryz.sizeOf41
 v53:=Tryz.zeroValue41
 t70:=Tryz.underlying144
 a70:=Tryz.isAgg144
 z70:=Tryz.sizeOf144
 v70:=Tryz.zeroValue144
 t72:=Tryz.underlying146
 a72:=Tryz.isAgg146
 z72:=Tryz.sizeOf146
 v72:=Tryz.zeroValue146
 t75:=Tryz.underlying234
 a75:=Tryz.isAgg234
 z75:=Tryz.sizeOf234
 v75:=Tryz.zeroValue234
 t76:=Tryz.underlying235
 a76:=Tryz.isAgg235
 z76:=Tryz.sizeOf235
 v76:=Tryz.zeroValue235
 t109:=Tryz.underlying348
 a109:=Tryz.isAgg348
 z109:=Tryz.sizeOf348
 v109:=Tryz.zeroValue348
 t127:=Tryz.underlying237
 a127:=Tryz.isAgg237
 z127:=Tryz.sizeOf237
 v127:=Tryz.zeroValue237
 t146:=Tryz.underlying338
 a146:=Tryz.isAgg338
 z146:=Tryz.sizeOf338
 v146:=Tryz.zeroValue338
 t148:=Tryz.underlying226
 a148:=Tryz.isAgg226
 z148:=Tryz.sizeOf226
 v148:=Tryz.zeroValue226
 t164:=Tryz.underlying327
 a164:=Tryz.isAgg327
 z164:=Tryz.sizeOf327
 v164:=Tryz.zeroValue327}
theorem Tryz.Builder_Extra_105:Builder.Extra Tryz.prog Tryz.lays105_ren:={
 sizeBuilder:=by kernel_rfl
 liesBuilder:=by kernel_rfl
 t5:=Tryz.underlying5
 a5:=Tryz.isAgg5
 z5:=Tryz.sizeOf5
 v5:=Tryz.zeroValue5
 infoByte:=by kernel_rfl
 cellsByte:=by kernel_rfl
 sizeByte:=by kernel_rfl
 neB5:=by decide}
theorem Tryz.strings_Repeat(s:ByteArray)(c:Nat)(w:World)(hc:c≤9223372036854775807)(hlen:s.size*c≤140737488355328):
   Calls Tryz.prog 253 #[.string s, .int .i64 c] w λe w'=>e= .returned (.string ⟨(Lib.repeatL s.data.toList c).toArray⟩)∧Below w.heap.size w w':=Any.strings_Repeat Tryz.lays105 Tryz.Builder_Extra_105 s c w hc hlen
end Go.Proofs
