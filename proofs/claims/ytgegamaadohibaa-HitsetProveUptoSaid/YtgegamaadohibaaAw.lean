/- The examples of chapter 39 hold: a run of the closed function. No condition. -/
import Derived.Test.YtgegamaadohibaaCL
import Derived.KernelRfl
namespace Go.Abs
open Go

theorem awake_fuel : callX (runF XT 300) XT 400 [] [] = some (.p (.v (.bool true)), []) := by kernel_rfl
theorem awake_call : call XT 400 [] [] = some (.p (.v (.bool true)), []) := call_of_fuel awake_fuel
end Go.Abs
