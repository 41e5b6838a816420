/- The executable reading of the model and its soundness, or the program, or a run. (a part of the proof of: ChooseSides: for every input the law answers true and leaves its argument as it was.) -/
import Derived.Test.YtcinkldpihkhbaaGreatR4d
set_option linter.unusedSectionVars false
set_option linter.unusedVariables false
set_option linter.unusedSimpArgs false
set_option linter.constructorNameAsVariable false
namespace Go.X
set_option maxRecDepth 100000
theorem rn4_0_0_0_1 : rn4 0 0 0 J4_1 = true := by kernel_rfl
theorem rn4_0_0_2_1 : rn4 0 0 2 J4_1 = true := by kernel_rfl
theorem rn4_0_1_1_1 : rn4 0 1 1 J4_1 = true := by kernel_rfl
theorem rn4_1_0_0_1 : rn4 1 0 0 J4_1 = true := by kernel_rfl
theorem rn4_1_0_2_1 : rn4 1 0 2 J4_1 = true := by kernel_rfl
theorem rn4_1_1_1_1 : rn4 1 1 1 J4_1 = true := by kernel_rfl
theorem rn4_2_0_0_1 : rn4 2 0 0 J4_1 = true := by kernel_rfl
theorem rn4_2_0_2_1 : rn4 2 0 2 J4_1 = true := by kernel_rfl
theorem rn4_2_1_1_1 : rn4 2 1 1 J4_1 = true := by kernel_rfl
theorem rn4_3_0_0_1 : rn4 3 0 0 J4_1 = true := by kernel_rfl
theorem rn4_3_0_2_1 : rn4 3 0 2 J4_1 = true := by kernel_rfl
theorem rn4_3_1_1_1 : rn4 3 1 1 J4_1 = true := by kernel_rfl
end Go.X
