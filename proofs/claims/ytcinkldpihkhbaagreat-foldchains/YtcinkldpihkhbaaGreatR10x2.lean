/- The executable reading of the model and its soundness, or the program, or a run. (a part of the proof of: FoldChains: for every input the law answers true and leaves its argument as it was.) -/
import Derived.Test.YtcinkldpihkhbaaGreatR10d
set_option linter.unusedSectionVars false
set_option linter.unusedVariables false
set_option linter.unusedSimpArgs false
set_option linter.constructorNameAsVariable false
namespace Go.X
set_option maxRecDepth 100000
theorem rn10_1_0 : rn10 1 J10_0 = true := by kernel_rfl
theorem rn10_3_0 : rn10 3 J10_0 = true := by kernel_rfl
theorem rn10_5_0 : rn10 5 J10_0 = true := by kernel_rfl
theorem rn10_7_0 : rn10 7 J10_0 = true := by kernel_rfl
theorem rn10_9_0 : rn10 9 J10_0 = true := by kernel_rfl
theorem rn10_11_0 : rn10 11 J10_0 = true := by kernel_rfl
theorem rn10_13_0 : rn10 13 J10_0 = true := by kernel_rfl
theorem rn10_15_0 : rn10 15 J10_0 = true := by kernel_rfl
theorem rn10_17_0 : rn10 17 J10_0 = true := by kernel_rfl
theorem rn10_19_0 : rn10 19 J10_0 = true := by kernel_rfl
end Go.X
