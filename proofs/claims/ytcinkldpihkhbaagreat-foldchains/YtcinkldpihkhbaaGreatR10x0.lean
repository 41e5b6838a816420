/- The executable reading of the model and its soundness, or the program, or a run. (a part of the proof of: FoldChains: for every input the law answers true and leaves its argument as it was.) -/
import Derived.Test.YtcinkldpihkhbaaGreatR10d
set_option linter.unusedSectionVars false
set_option linter.unusedVariables false
set_option linter.unusedSimpArgs false
set_option linter.constructorNameAsVariable false
namespace Go.X
set_option maxRecDepth 100000
theorem rn10_0_0 : rn10 0 J10_0 = true := by kernel_rfl
theorem rn10_2_0 : rn10 2 J10_0 = true := by kernel_rfl
theorem rn10_4_0 : rn10 4 J10_0 = true := by kernel_rfl
theorem rn10_6_0 : rn10 6 J10_0 = true := by kernel_rfl
theorem rn10_8_0 : rn10 8 J10_0 = true := by kernel_rfl
theorem rn10_10_0 : rn10 10 J10_0 = true := by kernel_rfl
theorem rn10_12_0 : rn10 12 J10_0 = true := by kernel_rfl
theorem rn10_14_0 : rn10 14 J10_0 = true := by kernel_rfl
theorem rn10_16_0 : rn10 16 J10_0 = true := by kernel_rfl
theorem rn10_18_0 : rn10 18 J10_0 = true := by kernel_rfl
end Go.X
