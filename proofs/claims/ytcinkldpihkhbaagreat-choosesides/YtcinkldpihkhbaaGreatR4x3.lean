/- The executable reading of the model and its soundness, or the program, or a run. (a part of the proof of: ChooseSides: for every input the law answers true and leaves its argument as it was.) -/
import Derived.Test.YtcinkldpihkhbaaGreatR4d
set_option linter.unusedSectionVars false
set_option linter.unusedVariables false
set_option linter.unusedSimpArgs false
set_option linter.constructorNameAsVariable false
namespace Go.X
set_option maxRecDepth 100000
theorem rn4_0_0_1_0 : rn4 0 0 1 J4_0 = true := by kernel_rfl
theorem rn4_0_1_0_0 : rn4 0 1 0 J4_0 = true := by kernel_rfl
theorem rn4_0_1_2_0 : rn4 0 1 2 J4_0 = true := by kernel_rfl
theorem rn4_1_0_1_0 : rn4 1 0 1 J4_0 = true := by kernel_rfl
theorem rn4_1_1_0_0 : rn4 1 1 0 J4_0 = true := by kernel_rfl
theorem rn4_1_1_2_0 : rn4 1 1 2 J4_0 = true := by kernel_rfl
theorem rn4_2_0_1_0 : rn4 2 0 1 J4_0 = true := by kernel_rfl
theorem rn4_2_1_0_0 : rn4 2 1 0 J4_0 = true := by kernel_rfl
theorem rn4_2_1_2_0 : rn4 2 1 2 J4_0 = true := by kernel_rfl
theorem rn4_3_0_1_0 : rn4 3 0 1 J4_0 = true := by kernel_rfl
theorem rn4_3_1_0_0 : rn4 3 1 0 J4_0 = true := by kernel_rfl
theorem rn4_3_1_2_0 : rn4 3 1 2 J4_0 = true := by kernel_rfl
end Go.X
