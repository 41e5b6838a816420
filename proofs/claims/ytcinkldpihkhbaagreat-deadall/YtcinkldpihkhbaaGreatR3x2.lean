/- The executable reading of the model and its soundness, or the program, or a run. (a part of the proof of: DeadAll: for every input the law answers true and leaves its argument as it was.) -/
import Derived.Test.YtcinkldpihkhbaaGreatR3d
set_option linter.unusedSectionVars false
set_option linter.unusedVariables false
set_option linter.unusedSimpArgs false
set_option linter.constructorNameAsVariable false
namespace Go.X
set_option maxRecDepth 100000
theorem rn3_2_0 : rn3 2 J3_0 = true := by kernel_rfl
theorem rn3_6_0 : rn3 6 J3_0 = true := by kernel_rfl
theorem rn3_10_0 : rn3 10 J3_0 = true := by kernel_rfl
theorem rn3_14_0 : rn3 14 J3_0 = true := by kernel_rfl
theorem rn3_18_0 : rn3 18 J3_0 = true := by kernel_rfl
end Go.X
