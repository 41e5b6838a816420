/- A part of the proof of this statement: ProveOnce: for every input the law answers true and leaves its argument as it was. -/
import Derived.Test.YtcinkldpihkhbaaGreatZR8d
set_option linter.unusedSectionVars false
set_option linter.unusedVariables false
set_option linter.unusedSimpArgs false
set_option linter.constructorNameAsVariable false
namespace Go.X
set_option maxRecDepth 100000
theorem rn8_0_1_1_0 : rn8 0 1 1 J8_0 = true := by decide +kernel
theorem rn8_0_5_1_0 : rn8 0 5 1 J8_0 = true := by decide +kernel
theorem rn8_1_3_1_0 : rn8 1 3 1 J8_0 = true := by decide +kernel
theorem rn8_2_1_1_0 : rn8 2 1 1 J8_0 = true := by decide +kernel
theorem rn8_2_5_1_0 : rn8 2 5 1 J8_0 = true := by decide +kernel
theorem rn8_3_3_1_0 : rn8 3 3 1 J8_0 = true := by decide +kernel
theorem rn8_4_1_1_0 : rn8 4 1 1 J8_0 = true := by decide +kernel
theorem rn8_4_5_1_0 : rn8 4 5 1 J8_0 = true := by decide +kernel
theorem rn8_5_3_1_0 : rn8 5 3 1 J8_0 = true := by decide +kernel
theorem rn8_6_1_1_0 : rn8 6 1 1 J8_0 = true := by decide +kernel
theorem rn8_6_5_1_0 : rn8 6 5 1 J8_0 = true := by decide +kernel
theorem rn8_7_3_1_0 : rn8 7 3 1 J8_0 = true := by decide +kernel
end Go.X
