/- The executable reading of the model and its soundness, or the program, or a run. (a part of the proof of: DeadAll: for every input the law answers true and leaves its argument as it was.) -/
import Derived.Test.YtcinkldpihkhbaaGreatR3d
set_option linter.unusedSectionVars false
set_option linter.unusedVariables false
set_option linter.unusedSimpArgs false
set_option linter.constructorNameAsVariable false
namespace Go.X
set_option maxRecDepth 100000
theorem rn3_3_0 : rn3 3 J3_0 = true := by kernel_rfl
theorem rn3_7_0 : rn3 7 J3_0 = true := by kernel_rfl
theorem rn3_11_0 : rn3 11 J3_0 = true := by kernel_rfl
theorem rn3_15_0 : rn3 15 J3_0 = true := by kernel_rfl
theorem rn3_19_0 : rn3 19 J3_0 = true := by kernel_rfl
end Go.X
