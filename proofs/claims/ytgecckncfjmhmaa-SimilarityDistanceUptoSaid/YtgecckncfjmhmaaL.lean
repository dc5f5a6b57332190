/- Functions of Go's library in this seat's program. No condition. -/
import Derived.Shelf.Strings.Builder1
import Derived.Shelf.Strings.Repeat
import Derived.Shelf.Small.Strs
import Derived.Test.YtgecckncfjmhmaaProg
import Derived.Test.YtgecckncfjmhmaaChecked
set_option linter.unusedVariables false
set_option linter.unusedSimpArgs false
set_option linter.unusedSectionVars false
namespace Go.Proofs
open Go.Shelf
def Try.lays106_ren : Go.Shelf.Ren := ⟨fun | 106 => 59 | 213 => 83 | 265 => 94 | n => n, fun | 9 => 9 | 3 => 3 | n => n, fun | n => n⟩
theorem Try.lays106 : Go.Proofs.Lays.n106 Try.prog Try.lays106_ren := {
  mixed := by kernel_rfl
  f106 := Try.func59.trans (congrArg some (by kernel_rfl))
  f213 := Try.func83.trans (congrArg some (by kernel_rfl))
  f265 := Try.func94.trans (congrArg some (by kernel_rfl))
  t3 := Try.underlying3
  a3 := Try.isAgg3
  z3 := Try.sizeOf3
  v3 := Try.zeroValue3
  t9 := Try.underlying9
  a9 := Try.isAgg9
  z9 := Try.sizeOf9
  v9 := Try.zeroValue9 }
def Try.lays105_ren : Go.Shelf.Ren := ⟨fun | 105 => 37 | 212 => 50 | 99 => 51 | 165 => 52 | 166 => 33 | 170 => 53 | 169 => 35 | 263 => 68 | 264 => 69 | 206 => 70 | 240 => 49 | 241 => 71 | 276 => 67 | 277 => 87 | n => n, fun | 9 => 9 | 3 => 3 | 4 => 4 | 20 => 20 | 0 => 0 | 46 => 86 | 109 => 87 | 5 => 5 | 72 => 69 | 76 => 72 | 51 => 105 | 146 => 106 | 53 => 93 | 148 => 108 | 70 => 66 | 37 => 67 | 75 => 71 | 127 => 85 | 164 => 103 | 80 => 75 | n => n, fun | n => n⟩
theorem Try.lays105 : Go.Proofs.Lays.n105 Try.prog Try.lays105_ren := {
  mixed := by kernel_rfl
  f99 := Try.func51.trans (congrArg some (by kernel_rfl))
  f105 := Try.func37.trans (congrArg some (by kernel_rfl))
  f165 := Try.func52.trans (congrArg some (by kernel_rfl))
  f166 := Try.func33.trans (congrArg some (by kernel_rfl))
  f169 := Try.func35.trans (congrArg some (by kernel_rfl))
  f170 := Try.func53.trans (congrArg some (by kernel_rfl))
  f206 := Try.func70.trans (congrArg some (by kernel_rfl))
  f212 := Try.func50.trans (congrArg some (by kernel_rfl))
  f240 := Try.func49.trans (congrArg some (by kernel_rfl))
  f241 := Try.func71.trans (congrArg some (by kernel_rfl))
  f263 := Try.func68.trans (congrArg some (by kernel_rfl))
  f264 := Try.func69.trans (congrArg some (by kernel_rfl))
  f276 := Try.func67.trans (congrArg some (by kernel_rfl))
  f277 := Try.func87.trans (congrArg some (by kernel_rfl))
  t0 := Try.underlying0
  a0 := Try.isAgg0
  z0 := Try.sizeOf0
  v0 := Try.zeroValue0
  t3 := Try.underlying3
  a3 := Try.isAgg3
  z3 := Try.sizeOf3
  v3 := Try.zeroValue3
  t4 := Try.underlying4
  a4 := Try.isAgg4
  z4 := Try.sizeOf4
  v4 := Try.zeroValue4
  t5 := Try.underlying5
  a5 := Try.isAgg5
  z5 := Try.sizeOf5
  v5 := Try.zeroValue5
  t9 := Try.underlying9
  a9 := Try.isAgg9
  z9 := Try.sizeOf9
  v9 := Try.zeroValue9
  t20 := Try.underlying20
  a20 := Try.isAgg20
  z20 := Try.sizeOf20
  v20 := Try.zeroValue20
  t37 := Try.underlying67
  a37 := Try.isAgg67
  z37 := Try.sizeOf67
  v37 := Try.zeroValue67
  t46 := Try.underlying86
  a46 := Try.isAgg86
  z46 := Try.sizeOf86
  v46 := Try.zeroValue86
  t51 := Try.underlying105
  a51 := Try.isAgg105
  z51 := Try.sizeOf105
  v51 := Try.zeroValue105
  t53 := Try.underlying93
  a53 := Try.isAgg93
  z53 := Try.sizeOf93
  v53 := Try.zeroValue93
  t70 := Try.underlying66
  a70 := Try.isAgg66
  z70 := Try.sizeOf66
  v70 := Try.zeroValue66
  t72 := Try.underlying69
  a72 := Try.isAgg69
  z72 := Try.sizeOf69
  v72 := Try.zeroValue69
  t75 := Try.underlying71
  a75 := Try.isAgg71
  z75 := Try.sizeOf71
  v75 := Try.zeroValue71
  t76 := Try.underlying72
  a76 := Try.isAgg72
  z76 := Try.sizeOf72
  v76 := Try.zeroValue72
  t109 := Try.underlying87
  a109 := Try.isAgg87
  z109 := Try.sizeOf87
  v109 := Try.zeroValue87
  t127 := Try.underlying85
  a127 := Try.isAgg85
  z127 := Try.sizeOf85
  v127 := Try.zeroValue85
  t146 := Try.underlying106
  a146 := Try.isAgg106
  z146 := Try.sizeOf106
  v146 := Try.zeroValue106
  t148 := Try.underlying108
  a148 := Try.isAgg108
  z148 := Try.sizeOf108
  v148 := Try.zeroValue108
  t164 := Try.underlying103
  a164 := Try.isAgg103
  z164 := Try.sizeOf103
  v164 := Try.zeroValue103 }
theorem Try.lays169' : Lays.n169 Try.prog Try.lays105_ren := { Try.lays105 with }
theorem Try.lays240' : Lays.n240 Try.prog Try.lays105_ren := { Try.lays105 with }
theorem Try.bextra : Builder.Extra Try.prog Try.lays105_ren where
  sizeBuilder := by kernel_rfl
  liesBuilder := by kernel_rfl
  t5 := Try.underlying5
  a5 := Try.isAgg5
  z5 := Try.sizeOf5
  v5 := Try.zeroValue5
  infoByte := by kernel_rfl
  cellsByte := by kernel_rfl
  sizeByte := by kernel_rfl
  neB5 := by decide
end Go.Proofs
