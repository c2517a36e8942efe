import Derived.Shelf.Strings.OnBuilder
import Derived.Shelf.LaysM
import Derived.Shelf.Strconv.Itoa4
import Derived.Test.YteoeedlcpalgbaaDoorProg
set_option linter.unusedVariables false
set_option linter.unusedSimpArgs false
namespace Go.Proofs
open Go.Shelf
def Tryd.lays156_ren:Go.Shelf.Ren:=⟨fun|156=>47|165=>54|166=>55|169=>56|240=>65|241=>66|276=>82|277=>83|n=>n,fun|31=>74|9=>9|3=>3|4=>4|0=>0|20=>20|72=>87|76=>89|70=>85|37=>84|75=>81|127=>102|164=>121|5=>5|80=>91|n=>n,fun|n=>n⟩
theorem Tryd.lays156:Go.Proofs.Lays.n156 Tryd.prog Tryd.lays156_ren:={
  mixed:=by kernel_rfl
  f156:=Tryd.func47.trans (congrArg some (by kernel_rfl))
  f165:=Tryd.func54.trans (congrArg some (by kernel_rfl))
  f166:=Tryd.func55.trans (congrArg some (by kernel_rfl))
  f169:=Tryd.func56.trans (congrArg some (by kernel_rfl))
  f240:=Tryd.func65.trans (congrArg some (by kernel_rfl))
  f241:=Tryd.func66.trans (congrArg some (by kernel_rfl))
  f276:=Tryd.func82.trans (congrArg some (by kernel_rfl))
  f277:=Tryd.func83.trans (congrArg some (by kernel_rfl))
  t0:=Tryd.underlying0
  a0:=Tryd.isAgg0
  z0:=Tryd.sizeOf0
  v0:=Tryd.zeroValue0
  t3:=Tryd.underlying3
  a3:=Tryd.isAgg3
  z3:=Tryd.sizeOf3
  v3:=Tryd.zeroValue3
  t4:=Tryd.underlying4
  a4:=Tryd.isAgg4
  z4:=Tryd.sizeOf4
  v4:=Tryd.zeroValue4
  t9:=Tryd.underlying9
  a9:=Tryd.isAgg9
  z9:=Tryd.sizeOf9
  v9:=Tryd.zeroValue9
  t20:=Tryd.underlying20
  a20:=Tryd.isAgg20
  z20:=Tryd.sizeOf20
  v20:=Tryd.zeroValue20
  t31:=Tryd.underlying74
  a31:=Tryd.isAgg74
  z31:=Tryd.sizeOf74
  v31:=Tryd.zeroValue74
  t37:=Tryd.underlying84
  a37:=Tryd.isAgg84
  z37:=Tryd.sizeOf84
  v37:=Tryd.zeroValue84
  t70:=Tryd.underlying85
  a70:=Tryd.isAgg85
  z70:=Tryd.sizeOf85
  v70:=Tryd.zeroValue85
  t72:=Tryd.underlying87
  a72:=Tryd.isAgg87
  z72:=Tryd.sizeOf87
  v72:=Tryd.zeroValue87
  t75:=Tryd.underlying81
  a75:=Tryd.isAgg81
  z75:=Tryd.sizeOf81
  v75:=Tryd.zeroValue81
  t76:=Tryd.underlying89
  a76:=Tryd.isAgg89
  z76:=Tryd.sizeOf89
  v76:=Tryd.zeroValue89
  t127:=Tryd.underlying102
  a127:=Tryd.isAgg102
  z127:=Tryd.sizeOf102
  v127:=Tryd.zeroValue102
  t164:=Tryd.underlying121
  a164:=Tryd.isAgg121
  z164:=Tryd.sizeOf121
  v164:=Tryd.zeroValue121}
theorem Tryd.Builder_Extra_156:Builder.Extra Tryd.prog Tryd.lays156_ren:={
  sizeBuilder:=by kernel_rfl
  liesBuilder:=by kernel_rfl
  t5:=Tryd.underlying5
  a5:=Tryd.isAgg5
  z5:=Tryd.sizeOf5
  v5:=Tryd.zeroValue5
  infoByte:=by kernel_rfl
  cellsByte:=by kernel_rfl
  sizeByte:=by kernel_rfl
  neB5:=by decide}
open Go.RowKit in
theorem Tryd.strings_Join_none (a:Option Addr) (c:Nat) (sep:ByteArray) (w:World):
    Calls Tryd.prog 47 #[.slice a 0 c,.string sep] w fun e w'=>e= .returned (.string ⟨#[]⟩)∧w'=w:=Any.strings_Join_none Tryd.lays156 Tryd.Builder_Extra_156 a c sep w
open Go.RowKit in
theorem Tryd.strings_Join (bk o c:Nat) (xs:List ByteArray) (sep:ByteArray) (w:World) (hcells:∀(j:Nat) x,xs[j]? =some x→w.cell? ⟨bk,o+j,none⟩=some (.string x)) (hbk:bk<w.heap.size) (hN:xs.length≤140737488355328) (hcap:xs.length≤c) (hlen:(Lib.join (xs.map (·.data.toList)) sep.data.toList).length≤140737488355328):
    Calls Tryd.prog 47 #[.slice (some ⟨bk,o,none⟩) xs.length c,.string sep] w fun e w'=>e= .returned (.string ⟨(Lib.join (xs.map (·.data.toList)) sep.data.toList).toArray⟩)∧Below w.heap.size w w':=Any.strings_Join Tryd.lays156 Tryd.Builder_Extra_156 bk o c xs sep w hcells hbk hN hcap hlen
open Go.RowKit Go.Sort Go.Lib in
def Tryd.lays173_ren:Go.Shelf.Ren:=⟨fun|173=>45|246=>53|283=>61|284=>62|285=>63|286=>64|129=>78|317=>77|318=>79|319=>80|320=>81|337=>93|338=>94|n=>n,fun|2=>2|3=>3|9=>9|4=>4|171=>96|0=>0|53=>97|37=>84|5=>5|173=>100|212=>116|51=>117|20=>20|213=>118|46=>110|232=>139|233=>140|n=>n,fun|17=>0|18=>6|19=>7|n=>n⟩
theorem Tryd.lays173:Go.Proofs.Lays.n173 Tryd.prog Tryd.lays173_ren:={
  mixed:=by kernel_rfl
  f129:=Tryd.func78.trans (congrArg some (by kernel_rfl))
  f173:=Tryd.func45.trans (congrArg some (by kernel_rfl))
  f246:=Tryd.func53.trans (congrArg some (by kernel_rfl))
  f283:=Tryd.func61.trans (congrArg some (by kernel_rfl))
  f284:=Tryd.func62.trans (congrArg some (by kernel_rfl))
  f285:=Tryd.func63.trans (congrArg some (by kernel_rfl))
  f286:=Tryd.func64.trans (congrArg some (by kernel_rfl))
  f317:=Tryd.func77.trans (congrArg some (by kernel_rfl))
  f318:=Tryd.func79.trans (congrArg some (by kernel_rfl))
  f319:=Tryd.func80.trans (congrArg some (by kernel_rfl))
  f320:=Tryd.func81.trans (congrArg some (by kernel_rfl))
  f337:=Tryd.func93.trans (congrArg some (by kernel_rfl))
  f338:=Tryd.func94.trans (congrArg some (by kernel_rfl))
  t0:=Tryd.underlying0
  a0:=Tryd.isAgg0
  z0:=Tryd.sizeOf0
  v0:=Tryd.zeroValue0
  t2:=Tryd.underlying2
  a2:=Tryd.isAgg2
  z2:=Tryd.sizeOf2
  v2:=Tryd.zeroValue2
  t3:=Tryd.underlying3
  a3:=Tryd.isAgg3
  z3:=Tryd.sizeOf3
  v3:=Tryd.zeroValue3
  t4:=Tryd.underlying4
  a4:=Tryd.isAgg4
  z4:=Tryd.sizeOf4
  v4:=Tryd.zeroValue4
  t5:=Tryd.underlying5
  a5:=Tryd.isAgg5
  z5:=Tryd.sizeOf5
  v5:=Tryd.zeroValue5
  t9:=Tryd.underlying9
  a9:=Tryd.isAgg9
  z9:=Tryd.sizeOf9
  v9:=Tryd.zeroValue9
  t20:=Tryd.underlying20
  a20:=Tryd.isAgg20
  z20:=Tryd.sizeOf20
  v20:=Tryd.zeroValue20
  t37:=Tryd.underlying84
  a37:=Tryd.isAgg84
  z37:=Tryd.sizeOf84
  v37:=Tryd.zeroValue84
  t46:=Tryd.underlying110
  a46:=Tryd.isAgg110
  z46:=Tryd.sizeOf110
  v46:=Tryd.zeroValue110
  t51:=Tryd.underlying117
  a51:=Tryd.isAgg117
  z51:=Tryd.sizeOf117
  v51:=Tryd.zeroValue117
  t53:=Tryd.underlying97
  a53:=Tryd.isAgg97
  z53:=Tryd.sizeOf97
  v53:=Tryd.zeroValue97
  t171:=Tryd.underlying96
  a171:=Tryd.isAgg96
  z171:=Tryd.sizeOf96
  v171:=Tryd.zeroValue96
  t173:=Tryd.underlying100
  a173:=Tryd.isAgg100
  z173:=Tryd.sizeOf100
  v173:=Tryd.zeroValue100
  t212:=Tryd.underlying116
  a212:=Tryd.isAgg116
  z212:=Tryd.sizeOf116
  v212:=Tryd.zeroValue116
  t213:=Tryd.underlying118
  a213:=Tryd.isAgg118
  z213:=Tryd.sizeOf118
  t232:=Tryd.underlying139
  a232:=Tryd.isAgg139
  z232:=Tryd.sizeOf139
  v232:=Tryd.zeroValue139
  t233:=Tryd.underlying140
  a233:=Tryd.isAgg140
  z233:=Tryd.sizeOf140
  v233:=Tryd.zeroValue140
  g17:=by kernel_rfl
  g18:=by kernel_rfl
  g19:=by kernel_rfl}
open Go.RowKit Go.Sort Go.Lib in
theorem Tryd.strconv_FormatInt_10_small (i:Nat) (hi:i<100) (w:World):
    Calls Tryd.prog 45 #[.int .i64 i,.int .i64 10] w fun e w'=>e= .returned (.string ⟨(Lib.decDigits i).toArray⟩)∧w'=w:=Any.strconv_FormatInt_10_small Tryd.lays173 i hi w
end Go.Proofs
