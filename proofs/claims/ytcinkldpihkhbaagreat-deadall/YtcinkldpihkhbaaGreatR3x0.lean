/- The executable reading of the model and its soundness, or the program, or a run. (a part of the proof of: DeadAll: for every input the law answers true and leaves its argument as it was.) -/
import Derived.Test.YtcinkldpihkhbaaGreatR3d
set_option linter.unusedSectionVars false
set_option linter.unusedVariables false
set_option linter.unusedSimpArgs false
set_option linter.constructorNameAsVariable false
namespace Go.X
set_option maxRecDepth 100000
theorem rn3_0_0 : rn3 0 J3_0 = true := by kernel_rfl
theorem rn3_4_0 : rn3 4 J3_0 = true := by kernel_rfl
theorem rn3_8_0 : rn3 8 J3_0 = true := by kernel_rfl
theorem rn3_12_0 : rn3 12 J3_0 = true := by kernel_rfl
theorem rn3_16_0 : rn3 16 J3_0 = true := by kernel_rfl
end Go.X
