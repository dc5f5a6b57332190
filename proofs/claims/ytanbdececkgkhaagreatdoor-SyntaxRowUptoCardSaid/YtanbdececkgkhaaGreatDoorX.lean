/- Plain laws of chapter 57: awake, run by the kernel; SyntaxRow. No condition. -/
import Derived.Test.YtanbdececkgkhaaGreatDoorP
set_option linter.unusedVariables false
set_option linter.unusedSimpArgs false
set_option linter.unusedSectionVars false
open Option renaming some → U,none → zz
open Bool renaming true → zZ,false → zj
namespace Go.Abs.iA
open Go Go.Abs
noncomputable section
set_option maxRecDepth 1000000
theorem aw:D8 f_=U true:=(congrArg D8 (Ywm 400)).symm.trans (show D8 (P6 400)=U zZ by kernel_rfl)
theorem xJ(s:ByteArray):iR f_ s=U true:=Ae s aw
end
end Go.Abs.iA
