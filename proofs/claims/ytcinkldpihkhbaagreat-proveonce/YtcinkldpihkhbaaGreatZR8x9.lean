/- A part of the proof of this statement: ProveOnce: for every input the law answers true and leaves its argument as it was. -/
import Derived.Test.YtcinkldpihkhbaaGreatZR8d
set_option linter.unusedSectionVars false
set_option linter.unusedVariables false
set_option linter.unusedSimpArgs false
set_option linter.constructorNameAsVariable false
namespace Go.X
set_option maxRecDepth 100000
theorem rn8_0_3_0_0 : rn8 0 3 0 J8_0 = true := by decide +kernel
theorem rn8_1_1_0_0 : rn8 1 1 0 J8_0 = true := by decide +kernel
theorem rn8_1_5_0_0 : rn8 1 5 0 J8_0 = true := by decide +kernel
theorem rn8_2_3_0_0 : rn8 2 3 0 J8_0 = true := by decide +kernel
theorem rn8_3_1_0_0 : rn8 3 1 0 J8_0 = true := by decide +kernel
theorem rn8_3_5_0_0 : rn8 3 5 0 J8_0 = true := by decide +kernel
theorem rn8_4_3_0_0 : rn8 4 3 0 J8_0 = true := by decide +kernel
theorem rn8_5_1_0_0 : rn8 5 1 0 J8_0 = true := by decide +kernel
theorem rn8_5_5_0_0 : rn8 5 5 0 J8_0 = true := by decide +kernel
theorem rn8_6_3_0_0 : rn8 6 3 0 J8_0 = true := by decide +kernel
theorem rn8_7_1_0_0 : rn8 7 1 0 J8_0 = true := by decide +kernel
theorem rn8_7_5_0_0 : rn8 7 5 0 J8_0 = true := by decide +kernel
end Go.X
