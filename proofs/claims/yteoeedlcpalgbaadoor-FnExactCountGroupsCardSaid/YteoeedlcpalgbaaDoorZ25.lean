import Derived.Shelf.Strings.OnBuilder
import Derived.Shelf.LaysM
import Derived.Shelf.Strconv.Itoa4
import Derived.Shelf.LaysC
import Derived.Shelf.Strconv.ParseIntPublic10
import Derived.Shelf.Strings.Search3
import Derived.Shelf.Strings.Count
import Derived.Test.YteoeedlcpalgbaaDoorProg
set_option linter.unusedVariables false
set_option linter.unusedSimpArgs false
namespace Go.Proofs
open Go.Shelf
def Tryd.lays156_ren:Go.Shelf.Ren:=⟨fun|156=>47|165=>54|166=>55|169=>56|240=>65|241=>66|276=>82|277=>83|n=>n,fun|31=>74|9=>9|3=>3|4=>4|0=>0|20=>20|72=>87|76=>89|70=>85|37=>84|75=>81|127=>102|164=>121|5=>5|80=>91|n=>n,fun|n=>n⟩
theorem Tryd.lays156:Go.Proofs.Lays.n156 Tryd.prog Tryd.lays156_ren:={
  mixed:=by kernel_rfl
  f156:=Tryd.func47.trans (congrArg some (by kernel_rfl))
  f165:=Tryd.func54.trans (congrArg some (by kernel_rfl))
  f166:=Tryd.func55.trans (congrArg some (by kernel_rfl))
  f169:=Tryd.func56.trans (congrArg some (by kernel_rfl))
  f240:=Tryd.func65.trans (congrArg some (by kernel_rfl))
  f241:=Tryd.func66.trans (congrArg some (by kernel_rfl))
  f276:=Tryd.func82.trans (congrArg some (by kernel_rfl))
  f277:=Tryd.func83.trans (congrArg some (by kernel_rfl))
  t0:=Tryd.underlying0
  a0:=Tryd.isAgg0
  z0:=Tryd.sizeOf0
  v0:=Tryd.zeroValue0
  t3:=Tryd.underlying3
  a3:=Tryd.isAgg3
  z3:=Tryd.sizeOf3
  v3:=Tryd.zeroValue3
  t4:=Tryd.underlying4
  a4:=Tryd.isAgg4
  z4:=Tryd.sizeOf4
  v4:=Tryd.zeroValue4
  t9:=Tryd.underlying9
  a9:=Tryd.isAgg9
  z9:=Tryd.sizeOf9
  v9:=Tryd.zeroValue9
  t20:=Tryd.underlying20
  a20:=Tryd.isAgg20
  z20:=Tryd.sizeOf20
  v20:=Tryd.zeroValue20
  t31:=Tryd.underlying74
  a31:=Tryd.isAgg74
  z31:=Tryd.sizeOf74
  v31:=Tryd.zeroValue74
  t37:=Tryd.underlying84
  a37:=Tryd.isAgg84
  z37:=Tryd.sizeOf84
  v37:=Tryd.zeroValue84
  t70:=Tryd.underlying85
  a70:=Tryd.isAgg85
  z70:=Tryd.sizeOf85
  v70:=Tryd.zeroValue85
  t72:=Tryd.underlying87
  a72:=Tryd.isAgg87
  z72:=Tryd.sizeOf87
  v72:=Tryd.zeroValue87
  t75:=Tryd.underlying81
  a75:=Tryd.isAgg81
  z75:=Tryd.sizeOf81
  v75:=Tryd.zeroValue81
  t76:=Tryd.underlying89
  a76:=Tryd.isAgg89
  z76:=Tryd.sizeOf89
  v76:=Tryd.zeroValue89
  t127:=Tryd.underlying102
  a127:=Tryd.isAgg102
  z127:=Tryd.sizeOf102
  v127:=Tryd.zeroValue102
  t164:=Tryd.underlying121
  a164:=Tryd.isAgg121
  z164:=Tryd.sizeOf121
  v164:=Tryd.zeroValue121}
theorem Tryd.Builder_Extra_156:Builder.Extra Tryd.prog Tryd.lays156_ren:={
  sizeBuilder:=by kernel_rfl
  liesBuilder:=by kernel_rfl
  t5:=Tryd.underlying5
  a5:=Tryd.isAgg5
  z5:=Tryd.sizeOf5
  v5:=Tryd.zeroValue5
  infoByte:=by kernel_rfl
  cellsByte:=by kernel_rfl
  sizeByte:=by kernel_rfl
  neB5:=by decide}
open Go.RowKit in

theorem Tryd.strings_Join_none (a:Option Addr) (c:Nat) (sep:ByteArray) (w:World):
    Calls Tryd.prog 47 #[.slice a 0 c,.string sep] w fun e w'=>e= .returned (.string ⟨#[]⟩)∧w'=w:=Any.strings_Join_none Tryd.lays156 Tryd.Builder_Extra_156 a c sep w
open Go.RowKit in

theorem Tryd.strings_Join (bk o c:Nat) (xs:List ByteArray) (sep:ByteArray) (w:World) (hcells:∀(j:Nat) x,xs[j]? =some x→w.cell? ⟨bk,o+j,none⟩=some (.string x)) (hbk:bk<w.heap.size) (hN:xs.length≤140737488355328) (hcap:xs.length≤c) (hlen:(Lib.join (xs.map (·.data.toList)) sep.data.toList).length≤140737488355328):
    Calls Tryd.prog 47 #[.slice (some ⟨bk,o,none⟩) xs.length c,.string sep] w fun e w'=>e= .returned (.string ⟨(Lib.join (xs.map (·.data.toList)) sep.data.toList).toArray⟩)∧Below w.heap.size w w':=Any.strings_Join Tryd.lays156 Tryd.Builder_Extra_156 bk o c xs sep w hcells hbk hN hcap hlen
def Tryd.laysM173_ren:Go.Shelf.Ren:=⟨fun|173=>45|246=>53|283=>61|284=>62|285=>63|286=>64|129=>78|317=>77|318=>79|319=>80|320=>81|337=>93|338=>94|n=>n,fun|2=>2|3=>3|9=>9|4=>4|171=>96|0=>0|53=>97|37=>84|5=>5|173=>100|212=>116|51=>117|20=>20|213=>118|46=>110|232=>139|233=>140|n=>n,fun|17=>0|18=>6|19=>7|n=>n⟩
theorem Tryd.laysM173:Go.Proofs.LaysM.n173 Tryd.prog Tryd.laysM173_ren:={
  mixed:=by kernel_rfl
  f129:=Tryd.func78.trans (congrArg some (by kernel_rfl))
  f173:=Tryd.func45.trans (congrArg some (by kernel_rfl))
  f246:=Tryd.func53.trans (congrArg some (by kernel_rfl))
  f283:=Tryd.func61.trans (congrArg some (by kernel_rfl))
  f284:=Tryd.func62.trans (congrArg some (by kernel_rfl))
  f285:=Tryd.func63.trans (congrArg some (by kernel_rfl))
  f286:=Tryd.func64.trans (congrArg some (by kernel_rfl))
  f317:=Tryd.func77.trans (congrArg some (by kernel_rfl))
  f318:=Tryd.func79.trans (congrArg some (by kernel_rfl))
  f319:=Tryd.func80.trans (congrArg some (by kernel_rfl))
  f320:=Tryd.func81.trans (congrArg some (by kernel_rfl))
  f337:=Tryd.func93.trans (congrArg some (by kernel_rfl))
  f338:=Tryd.func94.trans (congrArg some (by kernel_rfl))
  t0:=Tryd.underlying0
  a0:=Tryd.isAgg0
  z0:=Tryd.sizeOf0
  v0:=Tryd.zeroValue0
  t2:=Tryd.underlying2
  a2:=Tryd.isAgg2
  z2:=Tryd.sizeOf2
  v2:=Tryd.zeroValue2
  t3:=Tryd.underlying3
  a3:=Tryd.isAgg3
  z3:=Tryd.sizeOf3
  v3:=Tryd.zeroValue3
  t4:=Tryd.underlying4
  a4:=Tryd.isAgg4
  z4:=Tryd.sizeOf4
  v4:=Tryd.zeroValue4
  t5:=Tryd.underlying5
  a5:=Tryd.isAgg5
  z5:=Tryd.sizeOf5
  v5:=Tryd.zeroValue5
  t9:=Tryd.underlying9
  a9:=Tryd.isAgg9
  z9:=Tryd.sizeOf9
  v9:=Tryd.zeroValue9
  t20:=Tryd.underlying20
  a20:=Tryd.isAgg20
  z20:=Tryd.sizeOf20
  v20:=Tryd.zeroValue20
  t37:=Tryd.underlying84
  a37:=Tryd.isAgg84
  z37:=Tryd.sizeOf84
  v37:=Tryd.zeroValue84
  t46:=Tryd.underlying110
  a46:=Tryd.isAgg110
  z46:=Tryd.sizeOf110
  v46:=Tryd.zeroValue110
  t51:=Tryd.underlying117
  a51:=Tryd.isAgg117
  z51:=Tryd.sizeOf117
  v51:=Tryd.zeroValue117
  t53:=Tryd.underlying97
  a53:=Tryd.isAgg97
  z53:=Tryd.sizeOf97
  v53:=Tryd.zeroValue97
  t171:=Tryd.underlying96
  a171:=Tryd.isAgg96
  z171:=Tryd.sizeOf96
  v171:=Tryd.zeroValue96
  t173:=Tryd.underlying100
  a173:=Tryd.isAgg100
  z173:=Tryd.sizeOf100
  v173:=Tryd.zeroValue100
  t212:=Tryd.underlying116
  a212:=Tryd.isAgg116
  z212:=Tryd.sizeOf116
  v212:=Tryd.zeroValue116
  t213:=Tryd.underlying118
  a213:=Tryd.isAgg118
  z213:=Tryd.sizeOf118
  t232:=Tryd.underlying139
  a232:=Tryd.isAgg139
  z232:=Tryd.sizeOf139
  v232:=Tryd.zeroValue139
  t233:=Tryd.underlying140
  a233:=Tryd.isAgg140
  z233:=Tryd.sizeOf140
  v233:=Tryd.zeroValue140
  g17:=by kernel_rfl
  g18:=by kernel_rfl
  g19:=by kernel_rfl
  i0:=by kernel_rfl
  i2:=by kernel_rfl
  i3:=by kernel_rfl
  i4:=by kernel_rfl
  i5:=by kernel_rfl
  i9:=by kernel_rfl
  i20:=by kernel_rfl
  i37:=by kernel_rfl
  i46:=by kernel_rfl
  i51:=by kernel_rfl
  i53:=by kernel_rfl
  i171:=by kernel_rfl
  i173:=by kernel_rfl
  i212:=by kernel_rfl
  i232:=by kernel_rfl
  i233:=by kernel_rfl
  m17:=by kernel_rfl
  m18:=by kernel_rfl
  m19:=by kernel_rfl}
open Go.RowKit Go.Sort Go.Lib in

theorem Tryd.strconv_FormatInt_10 (n:Int) (h0: -9223372036854775808≤n) (h1:n≤9223372036854775807) (w:World) (htab:Lib.TabIs Tryd.prog w "internal/strconv.uint64pow10" .u64 Lib.pow10Tab):
    Calls Tryd.prog 45 #[.int .i64 n,.int .i64 10] w fun e w'=>e= .returned (.string ⟨(Lib.itoa n).toArray⟩)∧∃k os,w'=grow (w.drewN k) os:=Any.strconv_FormatInt_10 Tryd.laysM173 n h0 h1 w htab
def Tryd.lays173_ren:Go.Shelf.Ren:=⟨fun|173=>45|246=>53|283=>61|284=>62|285=>63|286=>64|129=>78|317=>77|318=>79|319=>80|320=>81|337=>93|338=>94|n=>n,fun|2=>2|3=>3|9=>9|4=>4|171=>96|0=>0|53=>97|37=>84|5=>5|173=>100|212=>116|51=>117|20=>20|213=>118|46=>110|232=>139|233=>140|n=>n,fun|17=>0|18=>6|19=>7|n=>n⟩
theorem Tryd.lays173:Go.Proofs.Lays.n173 Tryd.prog Tryd.lays173_ren:={
  mixed:=by kernel_rfl
  f129:=Tryd.func78.trans (congrArg some (by kernel_rfl))
  f173:=Tryd.func45.trans (congrArg some (by kernel_rfl))
  f246:=Tryd.func53.trans (congrArg some (by kernel_rfl))
  f283:=Tryd.func61.trans (congrArg some (by kernel_rfl))
  f284:=Tryd.func62.trans (congrArg some (by kernel_rfl))
  f285:=Tryd.func63.trans (congrArg some (by kernel_rfl))
  f286:=Tryd.func64.trans (congrArg some (by kernel_rfl))
  f317:=Tryd.func77.trans (congrArg some (by kernel_rfl))
  f318:=Tryd.func79.trans (congrArg some (by kernel_rfl))
  f319:=Tryd.func80.trans (congrArg some (by kernel_rfl))
  f320:=Tryd.func81.trans (congrArg some (by kernel_rfl))
  f337:=Tryd.func93.trans (congrArg some (by kernel_rfl))
  f338:=Tryd.func94.trans (congrArg some (by kernel_rfl))
  t0:=Tryd.underlying0
  a0:=Tryd.isAgg0
  z0:=Tryd.sizeOf0
  v0:=Tryd.zeroValue0
  t2:=Tryd.underlying2
  a2:=Tryd.isAgg2
  z2:=Tryd.sizeOf2
  v2:=Tryd.zeroValue2
  t3:=Tryd.underlying3
  a3:=Tryd.isAgg3
  z3:=Tryd.sizeOf3
  v3:=Tryd.zeroValue3
  t4:=Tryd.underlying4
  a4:=Tryd.isAgg4
  z4:=Tryd.sizeOf4
  v4:=Tryd.zeroValue4
  t5:=Tryd.underlying5
  a5:=Tryd.isAgg5
  z5:=Tryd.sizeOf5
  v5:=Tryd.zeroValue5
  t9:=Tryd.underlying9
  a9:=Tryd.isAgg9
  z9:=Tryd.sizeOf9
  v9:=Tryd.zeroValue9
  t20:=Tryd.underlying20
  a20:=Tryd.isAgg20
  z20:=Tryd.sizeOf20
  v20:=Tryd.zeroValue20
  t37:=Tryd.underlying84
  a37:=Tryd.isAgg84
  z37:=Tryd.sizeOf84
  v37:=Tryd.zeroValue84
  t46:=Tryd.underlying110
  a46:=Tryd.isAgg110
  z46:=Tryd.sizeOf110
  v46:=Tryd.zeroValue110
  t51:=Tryd.underlying117
  a51:=Tryd.isAgg117
  z51:=Tryd.sizeOf117
  v51:=Tryd.zeroValue117
  t53:=Tryd.underlying97
  a53:=Tryd.isAgg97
  z53:=Tryd.sizeOf97
  v53:=Tryd.zeroValue97
  t171:=Tryd.underlying96
  a171:=Tryd.isAgg96
  z171:=Tryd.sizeOf96
  v171:=Tryd.zeroValue96
  t173:=Tryd.underlying100
  a173:=Tryd.isAgg100
  z173:=Tryd.sizeOf100
  v173:=Tryd.zeroValue100
  t212:=Tryd.underlying116
  a212:=Tryd.isAgg116
  z212:=Tryd.sizeOf116
  v212:=Tryd.zeroValue116
  t213:=Tryd.underlying118
  a213:=Tryd.isAgg118
  z213:=Tryd.sizeOf118
  t232:=Tryd.underlying139
  a232:=Tryd.isAgg139
  z232:=Tryd.sizeOf139
  v232:=Tryd.zeroValue139
  t233:=Tryd.underlying140
  a233:=Tryd.isAgg140
  z233:=Tryd.sizeOf140
  v233:=Tryd.zeroValue140
  g17:=by kernel_rfl
  g18:=by kernel_rfl
  g19:=by kernel_rfl}
open Go.RowKit Go.Sort Go.Lib in

theorem Tryd.strconv_FormatInt_10_small (i:Nat) (hi:i<100) (w:World):
    Calls Tryd.prog 45 #[.int .i64 i,.int .i64 10] w fun e w'=>e= .returned (.string ⟨(Lib.decDigits i).toArray⟩)∧w'=w:=Any.strconv_FormatInt_10_small Tryd.lays173 i hi w
def Tryd.laysC174_ren:Go.Shelf.Ren:=⟨fun|174=>50|247=>59|245=>60|287=>72|279=>73|280=>74|281=>75|282=>76|321=>88|322=>89|316=>90|171=>92|205=>91|243=>99|246=>53|283=>61|284=>62|285=>63|286=>64|129=>78|317=>77|318=>79|319=>80|320=>81|337=>93|338=>94|n=>n,fun|9=>9|3=>3|2=>2|75=>81|85=>82|4=>4|167=>107|5=>5|53=>97|175=>108|46=>110|168=>111|37=>84|0=>0|210=>129|21=>21|127=>102|145=>138|143=>136|171=>96|173=>100|212=>116|51=>117|20=>20|213=>118|232=>139|233=>140|80=>91|n=>n,fun|15=>1|16=>2|17=>0|18=>6|19=>7|n=>n⟩
theorem Tryd.laysC174:Go.Proofs.LaysC.n174 Tryd.prog Tryd.laysC174_ren:={
  mixed:=by kernel_rfl
  f129:=Tryd.func78.trans (congrArg some (by kernel_rfl))
  f171:=Tryd.func92.trans (congrArg some (by kernel_rfl))
  f174:=Tryd.func50.trans (congrArg some (by kernel_rfl))
  f205:=Tryd.func91.trans (congrArg some (by kernel_rfl))
  f243:=Tryd.func99.trans (congrArg some (by kernel_rfl))
  f245:=Tryd.func60.trans (congrArg some (by kernel_rfl))
  f246:=Tryd.func53.trans (congrArg some (by kernel_rfl))
  f247:=Tryd.func59.trans (congrArg some (by kernel_rfl))
  f279:=Tryd.func73.trans (congrArg some (by kernel_rfl))
  f280:=Tryd.func74.trans (congrArg some (by kernel_rfl))
  f281:=Tryd.func75.trans (congrArg some (by kernel_rfl))
  f282:=Tryd.func76.trans (congrArg some (by kernel_rfl))
  f283:=Tryd.func61.trans (congrArg some (by kernel_rfl))
  f284:=Tryd.func62.trans (congrArg some (by kernel_rfl))
  f285:=Tryd.func63.trans (congrArg some (by kernel_rfl))
  f286:=Tryd.func64.trans (congrArg some (by kernel_rfl))
  f287:=Tryd.func72.trans (congrArg some (by kernel_rfl))
  f316:=Tryd.func90.trans (congrArg some (by kernel_rfl))
  f317:=Tryd.func77.trans (congrArg some (by kernel_rfl))
  f318:=Tryd.func79.trans (congrArg some (by kernel_rfl))
  f319:=Tryd.func80.trans (congrArg some (by kernel_rfl))
  f320:=Tryd.func81.trans (congrArg some (by kernel_rfl))
  f321:=Tryd.func88.trans (congrArg some (by kernel_rfl))
  f322:=Tryd.func89.trans (congrArg some (by kernel_rfl))
  f337:=Tryd.func93.trans (congrArg some (by kernel_rfl))
  f338:=Tryd.func94.trans (congrArg some (by kernel_rfl))
  t0:=Tryd.underlying0
  a0:=Tryd.isAgg0
  z0:=Tryd.sizeOf0
  v0:=Tryd.zeroValue0
  t2:=Tryd.underlying2
  a2:=Tryd.isAgg2
  z2:=Tryd.sizeOf2
  v2:=Tryd.zeroValue2
  t3:=Tryd.underlying3
  a3:=Tryd.isAgg3
  z3:=Tryd.sizeOf3
  v3:=Tryd.zeroValue3
  t4:=Tryd.underlying4
  a4:=Tryd.isAgg4
  z4:=Tryd.sizeOf4
  v4:=Tryd.zeroValue4
  t5:=Tryd.underlying5
  a5:=Tryd.isAgg5
  z5:=Tryd.sizeOf5
  v5:=Tryd.zeroValue5
  t9:=Tryd.underlying9
  a9:=Tryd.isAgg9
  z9:=Tryd.sizeOf9
  v9:=Tryd.zeroValue9
  t20:=Tryd.underlying20
  a20:=Tryd.isAgg20
  z20:=Tryd.sizeOf20
  v20:=Tryd.zeroValue20
  t21:=Tryd.underlying21
  a21:=Tryd.isAgg21
  z21:=Tryd.sizeOf21
  v21:=Tryd.zeroValue21
  t37:=Tryd.underlying84
  a37:=Tryd.isAgg84
  z37:=Tryd.sizeOf84
  v37:=Tryd.zeroValue84
  t46:=Tryd.underlying110
  a46:=Tryd.isAgg110
  z46:=Tryd.sizeOf110
  v46:=Tryd.zeroValue110
  t51:=Tryd.underlying117
  a51:=Tryd.isAgg117
  z51:=Tryd.sizeOf117
  v51:=Tryd.zeroValue117
  t53:=Tryd.underlying97
  a53:=Tryd.isAgg97
  z53:=Tryd.sizeOf97
  v53:=Tryd.zeroValue97
  t75:=Tryd.underlying81
  a75:=Tryd.isAgg81
  z75:=Tryd.sizeOf81
  v75:=Tryd.zeroValue81
  t85:=Tryd.underlying82
  a85:=Tryd.isAgg82
  z85:=Tryd.sizeOf82
  v85:=Tryd.zeroValue82
  t127:=Tryd.underlying102
  a127:=Tryd.isAgg102
  z127:=Tryd.sizeOf102
  v127:=Tryd.zeroValue102
  t143:=Tryd.underlying136
  a143:=Tryd.isAgg136
  z143:=Tryd.sizeOf136
  v143:=Tryd.zeroValue136
  t145:=Tryd.underlying138
  a145:=Tryd.isAgg138
  z145:=Tryd.sizeOf138
  v145:=Tryd.zeroValue138
  t167:=Tryd.underlying107
  a167:=Tryd.isAgg107
  z167:=Tryd.sizeOf107
  v167:=Tryd.zeroValue107
  t168:=Tryd.underlying111
  a168:=Tryd.isAgg111
  z168:=Tryd.sizeOf111
  v168:=Tryd.zeroValue111
  t171:=Tryd.underlying96
  a171:=Tryd.isAgg96
  z171:=Tryd.sizeOf96
  v171:=Tryd.zeroValue96
  t173:=Tryd.underlying100
  a173:=Tryd.isAgg100
  z173:=Tryd.sizeOf100
  v173:=Tryd.zeroValue100
  t175:=Tryd.underlying108
  a175:=Tryd.isAgg108
  z175:=Tryd.sizeOf108
  v175:=Tryd.zeroValue108
  t210:=Tryd.underlying129
  a210:=Tryd.isAgg129
  z210:=Tryd.sizeOf129
  v210:=Tryd.zeroValue129
  t212:=Tryd.underlying116
  a212:=Tryd.isAgg116
  z212:=Tryd.sizeOf116
  v212:=Tryd.zeroValue116
  t213:=Tryd.underlying118
  a213:=Tryd.isAgg118
  z213:=Tryd.sizeOf118
  t232:=Tryd.underlying139
  a232:=Tryd.isAgg139
  z232:=Tryd.sizeOf139
  v232:=Tryd.zeroValue139
  t233:=Tryd.underlying140
  a233:=Tryd.isAgg140
  z233:=Tryd.sizeOf140
  v233:=Tryd.zeroValue140
  g15:=by kernel_rfl
  g16:=by kernel_rfl
  g17:=by kernel_rfl
  g18:=by kernel_rfl
  g19:=by kernel_rfl
  t80:=Tryd.underlying91
  a80:=Tryd.isAgg91
  z80:=Tryd.sizeOf91
  v80:=Tryd.zeroValue91
  i0:=by kernel_rfl
  i2:=by kernel_rfl
  i3:=by kernel_rfl
  i4:=by kernel_rfl
  i5:=by kernel_rfl
  i9:=by kernel_rfl
  i20:=by kernel_rfl
  i21:=by kernel_rfl
  i37:=by kernel_rfl
  i46:=by kernel_rfl
  i51:=by kernel_rfl
  i53:=by kernel_rfl
  i75:=by kernel_rfl
  i80:=by kernel_rfl
  i85:=by kernel_rfl
  i127:=by kernel_rfl
  i143:=by kernel_rfl
  i145:=by kernel_rfl
  i167:=by kernel_rfl
  i168:=by kernel_rfl
  i171:=by kernel_rfl
  i173:=by kernel_rfl
  i175:=by kernel_rfl
  i210:=by kernel_rfl
  i212:=by kernel_rfl
  i232:=by kernel_rfl
  i233:=by kernel_rfl
  m15:=by kernel_rfl
  m16:=by kernel_rfl
  m17:=by kernel_rfl
  m18:=by kernel_rfl
  m19:=by kernel_rfl
  c0:=by kernel_rfl
  c2:=by kernel_rfl
  c3:=by kernel_rfl
  c4:=by kernel_rfl
  c5:=by kernel_rfl
  c9:=by kernel_rfl
  c20:=by kernel_rfl
  c21:=by kernel_rfl
  c37:=by kernel_rfl
  c46:=by kernel_rfl
  c51:=by kernel_rfl
  c53:=by kernel_rfl
  c75:=by kernel_rfl
  c80:=by kernel_rfl
  c85:=by kernel_rfl
  c127:=by kernel_rfl
  c143:=by kernel_rfl
  c145:=by kernel_rfl
  c167:=by kernel_rfl
  c168:=by kernel_rfl
  c171:=by kernel_rfl
  c173:=by kernel_rfl
  c175:=by kernel_rfl
  c210:=by kernel_rfl
  c212:=by kernel_rfl
  c213:=by kernel_rfl
  c232:=by kernel_rfl
  c233:=by kernel_rfl}
open Go.RowKit in

theorem Tryd.strconv_ParseInt_10_at0_ok (s:ByteArray) (hmax:s.size≤9223372036854775806) (v:Int) (h:Lib.parseIntB 64 s.data.toList= .ok v) (w:World):
    Calls Tryd.prog 50 #[.string s,.int .i64 10,.int .i64 0] w fun e w'=>e= .returned (.tuple #[.int .i64 v,.nilIface])∧(w'=w∨∃t,w'=Lib.bytesWorld w 5 t):=Any.strconv_ParseInt_10_at0_ok Tryd.laysC174 s hmax v h w
open Go.RowKit in

theorem Tryd.strconv_ParseInt_10_at0_syntax (s:ByteArray) (hlim:s.size≤281474976710656) (h:Lib.parseIntB 64 s.data.toList= .«syntax») (ev:Value) (w:World) (hv:w.cell? ⟨1,0,none⟩=some ev) (hev:ev= .nilIface∨∃te pe,ev= .iface te pe):
    Calls Tryd.prog 50 #[.string s,.int .i64 10,.int .i64 0] w fun e w'=>∃N,e= .returned (.tuple #[.int .i64 (0),.iface 111 (.pointer (some ⟨N,0,none⟩))])∧w.heap.size≤N∧w'.heap[N]? =some (.cells #[.string ⟨#[80,97,114,115,101,73,110,116]⟩,.string s,ev] 129 (0,0))∧Below w.heap.size w w':=Any.strconv_ParseInt_10_at0_syntax Tryd.laysC174 s hlim h ev w hv hev
open Go.RowKit in

theorem Tryd.strconv_ParseInt_10_at0_range (s:ByteArray) (hlim:s.size≤281474976710656) (h:Lib.parseIntB 64 s.data.toList= .range) (ev:Value) (w:World) (hv:w.cell? ⟨2,0,none⟩=some ev) (hev:ev= .nilIface∨∃te pe,ev= .iface te pe):
    Calls Tryd.prog 50 #[.string s,.int .i64 10,.int .i64 0] w fun e w'=>∃N,e= .returned (.tuple #[.int .i64 (Lib.intSat 64 s.data.toList),.iface 111 (.pointer (some ⟨N,0,none⟩))])∧w.heap.size≤N∧w'.heap[N]? =some (.cells #[.string ⟨#[80,97,114,115,101,73,110,116]⟩,.string s,ev] 129 (0,0))∧Below w.heap.size w w':=Any.strconv_ParseInt_10_at0_range Tryd.laysC174 s hlim h ev w hv hev
open Go.RowKit in

theorem Tryd.strconv_ParseInt_10_at64_ok (s:ByteArray) (hmax:s.size≤9223372036854775806) (v:Int) (h:Lib.parseIntB 64 s.data.toList= .ok v) (w:World):
    Calls Tryd.prog 50 #[.string s,.int .i64 10,.int .i64 64] w fun e w'=>e= .returned (.tuple #[.int .i64 v,.nilIface])∧(w'=w∨∃t,w'=Lib.bytesWorld w 5 t):=Any.strconv_ParseInt_10_at64_ok Tryd.laysC174 s hmax v h w
open Go.RowKit in

theorem Tryd.strconv_ParseInt_10_at64_syntax (s:ByteArray) (hlim:s.size≤281474976710656) (h:Lib.parseIntB 64 s.data.toList= .«syntax») (ev:Value) (w:World) (hv:w.cell? ⟨1,0,none⟩=some ev) (hev:ev= .nilIface∨∃te pe,ev= .iface te pe):
    Calls Tryd.prog 50 #[.string s,.int .i64 10,.int .i64 64] w fun e w'=>∃N,e= .returned (.tuple #[.int .i64 (0),.iface 111 (.pointer (some ⟨N,0,none⟩))])∧w.heap.size≤N∧w'.heap[N]? =some (.cells #[.string ⟨#[80,97,114,115,101,73,110,116]⟩,.string s,ev] 129 (0,0))∧Below w.heap.size w w':=Any.strconv_ParseInt_10_at64_syntax Tryd.laysC174 s hlim h ev w hv hev
open Go.RowKit in

theorem Tryd.strconv_ParseInt_10_at64_range (s:ByteArray) (hlim:s.size≤281474976710656) (h:Lib.parseIntB 64 s.data.toList= .range) (ev:Value) (w:World) (hv:w.cell? ⟨2,0,none⟩=some ev) (hev:ev= .nilIface∨∃te pe,ev= .iface te pe):
    Calls Tryd.prog 50 #[.string s,.int .i64 10,.int .i64 64] w fun e w'=>∃N,e= .returned (.tuple #[.int .i64 (Lib.intSat 64 s.data.toList),.iface 111 (.pointer (some ⟨N,0,none⟩))])∧w.heap.size≤N∧w'.heap[N]? =some (.cells #[.string ⟨#[80,97,114,115,101,73,110,116]⟩,.string s,ev] 129 (0,0))∧Below w.heap.size w w':=Any.strconv_ParseInt_10_at64_range Tryd.laysC174 s hlim h ev w hv hev
open Go.RowKit in

theorem Tryd.strconv_ParseInt_10_at32_ok (s:ByteArray) (hmax:s.size≤9223372036854775806) (v:Int) (h:Lib.parseIntB 32 s.data.toList= .ok v) (w:World):
    Calls Tryd.prog 50 #[.string s,.int .i64 10,.int .i64 32] w fun e w'=>e= .returned (.tuple #[.int .i64 v,.nilIface])∧(w'=w∨∃t,w'=Lib.bytesWorld w 5 t):=Any.strconv_ParseInt_10_at32_ok Tryd.laysC174 s hmax v h w
open Go.RowKit in

theorem Tryd.strconv_ParseInt_10_at32_syntax (s:ByteArray) (hlim:s.size≤281474976710656) (h:Lib.parseIntB 32 s.data.toList= .«syntax») (ev:Value) (w:World) (hv:w.cell? ⟨1,0,none⟩=some ev) (hev:ev= .nilIface∨∃te pe,ev= .iface te pe):
    Calls Tryd.prog 50 #[.string s,.int .i64 10,.int .i64 32] w fun e w'=>∃N,e= .returned (.tuple #[.int .i64 (0),.iface 111 (.pointer (some ⟨N,0,none⟩))])∧w.heap.size≤N∧w'.heap[N]? =some (.cells #[.string ⟨#[80,97,114,115,101,73,110,116]⟩,.string s,ev] 129 (0,0))∧Below w.heap.size w w':=Any.strconv_ParseInt_10_at32_syntax Tryd.laysC174 s hlim h ev w hv hev
open Go.RowKit in

theorem Tryd.strconv_ParseInt_10_at32_range (s:ByteArray) (hlim:s.size≤281474976710656) (h:Lib.parseIntB 32 s.data.toList= .range) (ev:Value) (w:World) (hv:w.cell? ⟨2,0,none⟩=some ev) (hev:ev= .nilIface∨∃te pe,ev= .iface te pe):
    Calls Tryd.prog 50 #[.string s,.int .i64 10,.int .i64 32] w fun e w'=>∃N,e= .returned (.tuple #[.int .i64 (Lib.intSat 32 s.data.toList),.iface 111 (.pointer (some ⟨N,0,none⟩))])∧w.heap.size≤N∧w'.heap[N]? =some (.cells #[.string ⟨#[80,97,114,115,101,73,110,116]⟩,.string s,ev] 129 (0,0))∧Below w.heap.size w w':=Any.strconv_ParseInt_10_at32_range Tryd.laysC174 s hlim h ev w hv hev
open Go.RowKit in

theorem Tryd.strconv_ParseInt_10_at16_ok (s:ByteArray) (hmax:s.size≤9223372036854775806) (v:Int) (h:Lib.parseIntB 16 s.data.toList= .ok v) (w:World):
    Calls Tryd.prog 50 #[.string s,.int .i64 10,.int .i64 16] w fun e w'=>e= .returned (.tuple #[.int .i64 v,.nilIface])∧(w'=w∨∃t,w'=Lib.bytesWorld w 5 t):=Any.strconv_ParseInt_10_at16_ok Tryd.laysC174 s hmax v h w
open Go.RowKit in

theorem Tryd.strconv_ParseInt_10_at16_syntax (s:ByteArray) (hlim:s.size≤281474976710656) (h:Lib.parseIntB 16 s.data.toList= .«syntax») (ev:Value) (w:World) (hv:w.cell? ⟨1,0,none⟩=some ev) (hev:ev= .nilIface∨∃te pe,ev= .iface te pe):
    Calls Tryd.prog 50 #[.string s,.int .i64 10,.int .i64 16] w fun e w'=>∃N,e= .returned (.tuple #[.int .i64 (0),.iface 111 (.pointer (some ⟨N,0,none⟩))])∧w.heap.size≤N∧w'.heap[N]? =some (.cells #[.string ⟨#[80,97,114,115,101,73,110,116]⟩,.string s,ev] 129 (0,0))∧Below w.heap.size w w':=Any.strconv_ParseInt_10_at16_syntax Tryd.laysC174 s hlim h ev w hv hev
open Go.RowKit in

theorem Tryd.strconv_ParseInt_10_at16_range (s:ByteArray) (hlim:s.size≤281474976710656) (h:Lib.parseIntB 16 s.data.toList= .range) (ev:Value) (w:World) (hv:w.cell? ⟨2,0,none⟩=some ev) (hev:ev= .nilIface∨∃te pe,ev= .iface te pe):
    Calls Tryd.prog 50 #[.string s,.int .i64 10,.int .i64 16] w fun e w'=>∃N,e= .returned (.tuple #[.int .i64 (Lib.intSat 16 s.data.toList),.iface 111 (.pointer (some ⟨N,0,none⟩))])∧w.heap.size≤N∧w'.heap[N]? =some (.cells #[.string ⟨#[80,97,114,115,101,73,110,116]⟩,.string s,ev] 129 (0,0))∧Below w.heap.size w w':=Any.strconv_ParseInt_10_at16_range Tryd.laysC174 s hlim h ev w hv hev
open Go.RowKit in

theorem Tryd.strconv_ParseInt_10_at8_ok (s:ByteArray) (hmax:s.size≤9223372036854775806) (v:Int) (h:Lib.parseIntB 8 s.data.toList= .ok v) (w:World):
    Calls Tryd.prog 50 #[.string s,.int .i64 10,.int .i64 8] w fun e w'=>e= .returned (.tuple #[.int .i64 v,.nilIface])∧(w'=w∨∃t,w'=Lib.bytesWorld w 5 t):=Any.strconv_ParseInt_10_at8_ok Tryd.laysC174 s hmax v h w
open Go.RowKit in

theorem Tryd.strconv_ParseInt_10_at8_syntax (s:ByteArray) (hlim:s.size≤281474976710656) (h:Lib.parseIntB 8 s.data.toList= .«syntax») (ev:Value) (w:World) (hv:w.cell? ⟨1,0,none⟩=some ev) (hev:ev= .nilIface∨∃te pe,ev= .iface te pe):
    Calls Tryd.prog 50 #[.string s,.int .i64 10,.int .i64 8] w fun e w'=>∃N,e= .returned (.tuple #[.int .i64 (0),.iface 111 (.pointer (some ⟨N,0,none⟩))])∧w.heap.size≤N∧w'.heap[N]? =some (.cells #[.string ⟨#[80,97,114,115,101,73,110,116]⟩,.string s,ev] 129 (0,0))∧Below w.heap.size w w':=Any.strconv_ParseInt_10_at8_syntax Tryd.laysC174 s hlim h ev w hv hev
open Go.RowKit in

theorem Tryd.strconv_ParseInt_10_at8_range (s:ByteArray) (hlim:s.size≤281474976710656) (h:Lib.parseIntB 8 s.data.toList= .range) (ev:Value) (w:World) (hv:w.cell? ⟨2,0,none⟩=some ev) (hev:ev= .nilIface∨∃te pe,ev= .iface te pe):
    Calls Tryd.prog 50 #[.string s,.int .i64 10,.int .i64 8] w fun e w'=>∃N,e= .returned (.tuple #[.int .i64 (Lib.intSat 8 s.data.toList),.iface 111 (.pointer (some ⟨N,0,none⟩))])∧w.heap.size≤N∧w'.heap[N]? =some (.cells #[.string ⟨#[80,97,114,115,101,73,110,116]⟩,.string s,ev] 129 (0,0))∧Below w.heap.size w w':=Any.strconv_ParseInt_10_at8_range Tryd.laysC174 s hlim h ev w hv hev
def Tryd.lays143_ren:Go.Shelf.Ren:=⟨fun|143=>69|219=>85|217=>95|225=>96|224=>97|267=>98|266=>100|314=>101|n=>n,fun|9=>9|3=>3|4=>4|5=>5|46=>110|146=>141|51=>117|n=>n,fun|1=>3|n=>n⟩
theorem Tryd.lays143:Go.Proofs.Lays.n143 Tryd.prog Tryd.lays143_ren:={
  mixed:=by kernel_rfl
  f143:=Tryd.func69.trans (congrArg some (by kernel_rfl))
  f217:=Tryd.func95.trans (congrArg some (by kernel_rfl))
  f219:=Tryd.func85.trans (congrArg some (by kernel_rfl))
  f224:=Tryd.func97.trans (congrArg some (by kernel_rfl))
  f225:=Tryd.func96.trans (congrArg some (by kernel_rfl))
  f266:=Tryd.func100.trans (congrArg some (by kernel_rfl))
  f267:=Tryd.func98.trans (congrArg some (by kernel_rfl))
  f314:=Tryd.func101.trans (congrArg some (by kernel_rfl))
  t3:=Tryd.underlying3
  a3:=Tryd.isAgg3
  z3:=Tryd.sizeOf3
  v3:=Tryd.zeroValue3
  t4:=Tryd.underlying4
  a4:=Tryd.isAgg4
  z4:=Tryd.sizeOf4
  v4:=Tryd.zeroValue4
  t5:=Tryd.underlying5
  a5:=Tryd.isAgg5
  z5:=Tryd.sizeOf5
  v5:=Tryd.zeroValue5
  t9:=Tryd.underlying9
  a9:=Tryd.isAgg9
  z9:=Tryd.sizeOf9
  v9:=Tryd.zeroValue9
  t46:=Tryd.underlying110
  a46:=Tryd.isAgg110
  z46:=Tryd.sizeOf110
  v46:=Tryd.zeroValue110
  t51:=Tryd.underlying117
  a51:=Tryd.isAgg117
  z51:=Tryd.sizeOf117
  v51:=Tryd.zeroValue117
  t146:=Tryd.underlying141
  a146:=Tryd.isAgg141
  z146:=Tryd.sizeOf141
  v146:=Tryd.zeroValue141
  g1:=by kernel_rfl}
open Go.RowKit Go.Lib in

theorem Tryd.strings_Index_one (s:ByteArray) (c:UInt8) (w:World):
    Calls Tryd.prog 69 #[.string s,.string ⟨#[c]⟩] w fun e w'=>e= .returned (.int .i64 (Lib.indexByte s.data.toList c))∧w'=w:=Any.strings_Index_one Tryd.lays143 s c w
open Go.RowKit Go.Lib in

theorem Tryd.strings_Index (s sub:ByteArray) (m:Int) (w:World) (hs:s.size<4294967281) (hm:w.cell? ⟨3,0,none⟩=some (.int .i64 m)):
    Calls Tryd.prog 69 #[.string s,.string sub] w fun e w'=>e= .returned (.int .i64 (Lib.index s.data.toList sub.data.toList))∧w'=w:=Any.strings_Index Tryd.lays143 s sub m w hs hm
def Tryd.lays138_ren:Go.Shelf.Ren:=⟨fun|138=>71|195=>86|218=>87|143=>69|219=>85|217=>95|225=>96|224=>97|267=>98|266=>100|314=>101|n=>n,fun|9=>9|3=>3|4=>4|5=>5|0=>0|46=>110|146=>141|51=>117|n=>n,fun|1=>3|n=>n⟩
theorem Tryd.lays138:Go.Proofs.Lays.n138 Tryd.prog Tryd.lays138_ren:={
  mixed:=by kernel_rfl
  f138:=Tryd.func71.trans (congrArg some (by kernel_rfl))
  f143:=Tryd.func69.trans (congrArg some (by kernel_rfl))
  f195:=Tryd.func86.trans (congrArg some (by kernel_rfl))
  f217:=Tryd.func95.trans (congrArg some (by kernel_rfl))
  f218:=Tryd.func87.trans (congrArg some (by kernel_rfl))
  f219:=Tryd.func85.trans (congrArg some (by kernel_rfl))
  f224:=Tryd.func97.trans (congrArg some (by kernel_rfl))
  f225:=Tryd.func96.trans (congrArg some (by kernel_rfl))
  f266:=Tryd.func100.trans (congrArg some (by kernel_rfl))
  f267:=Tryd.func98.trans (congrArg some (by kernel_rfl))
  f314:=Tryd.func101.trans (congrArg some (by kernel_rfl))
  t0:=Tryd.underlying0
  a0:=Tryd.isAgg0
  z0:=Tryd.sizeOf0
  v0:=Tryd.zeroValue0
  t3:=Tryd.underlying3
  a3:=Tryd.isAgg3
  z3:=Tryd.sizeOf3
  v3:=Tryd.zeroValue3
  t4:=Tryd.underlying4
  a4:=Tryd.isAgg4
  z4:=Tryd.sizeOf4
  v4:=Tryd.zeroValue4
  t5:=Tryd.underlying5
  a5:=Tryd.isAgg5
  z5:=Tryd.sizeOf5
  v5:=Tryd.zeroValue5
  t9:=Tryd.underlying9
  a9:=Tryd.isAgg9
  z9:=Tryd.sizeOf9
  v9:=Tryd.zeroValue9
  t46:=Tryd.underlying110
  a46:=Tryd.isAgg110
  z46:=Tryd.sizeOf110
  v46:=Tryd.zeroValue110
  t51:=Tryd.underlying117
  a51:=Tryd.isAgg117
  z51:=Tryd.sizeOf117
  v51:=Tryd.zeroValue117
  t146:=Tryd.underlying141
  a146:=Tryd.isAgg141
  z146:=Tryd.sizeOf141
  v146:=Tryd.zeroValue141
  g1:=by kernel_rfl}
open Go.RowKit Go.Lib in

theorem Tryd.strings_Count_one (s:ByteArray) (c:UInt8) (w:World):
    Calls Tryd.prog 71 #[.string s,.string ⟨#[c]⟩] w fun e w'=>e= .returned (.int .i64 (Lib.countByte s.data.toList c))∧w'=w:=Any.strings_Count_one Tryd.lays138 s c w
open Go.RowKit Go.Lib in

theorem Tryd.strings_Count (s sub:ByteArray) (m:Int) (w:World) (hs:s.size<4294967281) (hm:w.cell? ⟨3,0,none⟩=some (.int .i64 m)) (h2:2≤sub.size):
    Calls Tryd.prog 71 #[.string s,.string sub] w fun e w'=>e= .returned (.int .i64 (Lib.countB s sub))∧w'=w:=Any.strings_Count Tryd.lays138 s sub m w hs hm h2
end Go.Proofs
