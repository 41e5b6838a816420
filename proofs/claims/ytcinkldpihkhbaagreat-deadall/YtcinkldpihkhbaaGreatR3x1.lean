/- The executable reading of the model and its soundness, or the program, or a run. (a part of the proof of: DeadAll: for every input the law answers true and leaves its argument as it was.) -/
import Derived.Test.YtcinkldpihkhbaaGreatR3d
set_option linter.unusedSectionVars false
set_option linter.unusedVariables false
set_option linter.unusedSimpArgs false
set_option linter.constructorNameAsVariable false
namespace Go.X
set_option maxRecDepth 100000
theorem rn3_1_0 : rn3 1 J3_0 = true := by kernel_rfl
theorem rn3_5_0 : rn3 5 J3_0 = true := by kernel_rfl
theorem rn3_9_0 : rn3 9 J3_0 = true := by kernel_rfl
theorem rn3_13_0 : rn3 13 J3_0 = true := by kernel_rfl
theorem rn3_17_0 : rn3 17 J3_0 = true := by kernel_rfl
end Go.X
