/- Functions of Go's library in this seat's program. No condition. -/
import Derived.Shelf.Strings.Builder1
import Derived.Shelf.Strings.OnBuilder
import Derived.Shelf.Sort.Plain
import Derived.Shelf.Slices.CompactI
import Derived.Shelf.Slices.Clone
import Derived.Test.YtppagmmeofoekaaDoorProg
import Derived.Test.YtppagmmeofoekaaDoorChecked
set_option linter.unusedVariables false
set_option linter.unusedSimpArgs false
set_option linter.unusedSectionVars false
namespace Go.Proofs
open Go.Shelf
def Tryd.lays156_ren:Go.Shelf.Ren:=⟨fun|156=>60|165=>75|166=>46|169=>48|240=>55|241=>87|276=>72|277=>93|n=>n,fun|31=>92|9=>9|3=>3|4=>4|0=>0|20=>20|72=>77|76=>80|70=>74|37=>75|75=>79|127=>99|164=>111|5=>5|80=>83|n=>n,fun|n=>n⟩
theorem Tryd.lays156:Go.Proofs.Lays.n156 Tryd.prog Tryd.lays156_ren:={
  mixed:=by kernel_rfl
  f156:=Tryd.func60.trans (congrArg some (by kernel_rfl))
  f165:=Tryd.func75.trans (congrArg some (by kernel_rfl))
  f166:=Tryd.func46.trans (congrArg some (by kernel_rfl))
  f169:=Tryd.func48.trans (congrArg some (by kernel_rfl))
  f240:=Tryd.func55.trans (congrArg some (by kernel_rfl))
  f241:=Tryd.func87.trans (congrArg some (by kernel_rfl))
  f276:=Tryd.func72.trans (congrArg some (by kernel_rfl))
  f277:=Tryd.func93.trans (congrArg some (by kernel_rfl))
  t0:=Tryd.underlying0
  a0:=Tryd.isAgg0
  z0:=Tryd.sizeOf0
  v0:=Tryd.zeroValue0
  t3:=Tryd.underlying3
  a3:=Tryd.isAgg3
  z3:=Tryd.sizeOf3
  v3:=Tryd.zeroValue3
  t4:=Tryd.underlying4
  a4:=Tryd.isAgg4
  z4:=Tryd.sizeOf4
  v4:=Tryd.zeroValue4
  t9:=Tryd.underlying9
  a9:=Tryd.isAgg9
  z9:=Tryd.sizeOf9
  v9:=Tryd.zeroValue9
  t20:=Tryd.underlying20
  a20:=Tryd.isAgg20
  z20:=Tryd.sizeOf20
  v20:=Tryd.zeroValue20
  t31:=Tryd.underlying92
  a31:=Tryd.isAgg92
  z31:=Tryd.sizeOf92
  v31:=Tryd.zeroValue92
  t37:=Tryd.underlying75
  a37:=Tryd.isAgg75
  z37:=Tryd.sizeOf75
  v37:=Tryd.zeroValue75
  t70:=Tryd.underlying74
  a70:=Tryd.isAgg74
  z70:=Tryd.sizeOf74
  v70:=Tryd.zeroValue74
  t72:=Tryd.underlying77
  a72:=Tryd.isAgg77
  z72:=Tryd.sizeOf77
  v72:=Tryd.zeroValue77
  t75:=Tryd.underlying79
  a75:=Tryd.isAgg79
  z75:=Tryd.sizeOf79
  v75:=Tryd.zeroValue79
  t76:=Tryd.underlying80
  a76:=Tryd.isAgg80
  z76:=Tryd.sizeOf80
  v76:=Tryd.zeroValue80
  t127:=Tryd.underlying99
  a127:=Tryd.isAgg99
  z127:=Tryd.sizeOf99
  v127:=Tryd.zeroValue99
  t164:=Tryd.underlying111
  a164:=Tryd.isAgg111
  z164:=Tryd.sizeOf111
  v164:=Tryd.zeroValue111}
def Tryd.lays2_15_ren:Go.Shelf.Ren:=⟨fun|15=>40|n=>n,fun|22=>45|3=>3|4=>4|n=>n,fun|n=>n⟩
theorem Tryd.lays2_15:Go.Proofs.Lays2.n15 Tryd.prog Tryd.lays2_15_ren:={
  mixed:=by kernel_rfl
  f15:=Tryd.func40.trans (congrArg some (by kernel_rfl))
  t3:=Tryd.underlying3
  a3:=Tryd.isAgg3
  z3:=Tryd.sizeOf3
  v3:=Tryd.zeroValue3
  t4:=Tryd.underlying4
  a4:=Tryd.isAgg4
  z4:=Tryd.sizeOf4
  v4:=Tryd.zeroValue4
  t22:=Tryd.underlying45
  a22:=Tryd.isAgg45
  z22:=Tryd.sizeOf45
  v22:=Tryd.zeroValue45
  i3:=by kernel_rfl}
theorem Tryd.lays169':Lays.n169 Tryd.prog Tryd.lays156_ren:={Tryd.lays156 with}
theorem Tryd.lays240':Lays.n240 Tryd.prog Tryd.lays156_ren:={Tryd.lays156 with}
theorem Tryd.bextra:Builder.Extra Tryd.prog Tryd.lays156_ren where
  sizeBuilder:=by kernel_rfl
  liesBuilder:=by kernel_rfl
  t5:=Tryd.underlying5
  a5:=Tryd.isAgg5
  z5:=Tryd.sizeOf5
  v5:=Tryd.zeroValue5
  infoByte:=by kernel_rfl
  cellsByte:=by kernel_rfl
  sizeByte:=by kernel_rfl
  neB5:=by decide
end Go.Proofs
