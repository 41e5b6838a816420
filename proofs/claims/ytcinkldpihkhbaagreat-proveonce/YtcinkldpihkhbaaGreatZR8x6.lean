/- A part of the proof of this statement: ProveOnce: for every input the law answers true and leaves its argument as it was. -/
import Derived.Test.YtcinkldpihkhbaaGreatZR8d
set_option linter.unusedSectionVars false
set_option linter.unusedVariables false
set_option linter.unusedSimpArgs false
set_option linter.constructorNameAsVariable false
namespace Go.X
set_option maxRecDepth 100000
theorem rn8_0_2_0_0 : rn8 0 2 0 J8_0 = true := by decide +kernel
theorem rn8_1_0_0_0 : rn8 1 0 0 J8_0 = true := by decide +kernel
theorem rn8_1_4_0_0 : rn8 1 4 0 J8_0 = true := by decide +kernel
theorem rn8_2_2_0_0 : rn8 2 2 0 J8_0 = true := by decide +kernel
theorem rn8_3_0_0_0 : rn8 3 0 0 J8_0 = true := by decide +kernel
theorem rn8_3_4_0_0 : rn8 3 4 0 J8_0 = true := by decide +kernel
theorem rn8_4_2_0_0 : rn8 4 2 0 J8_0 = true := by decide +kernel
theorem rn8_5_0_0_0 : rn8 5 0 0 J8_0 = true := by decide +kernel
theorem rn8_5_4_0_0 : rn8 5 4 0 J8_0 = true := by decide +kernel
theorem rn8_6_2_0_0 : rn8 6 2 0 J8_0 = true := by decide +kernel
theorem rn8_7_0_0_0 : rn8 7 0 0 J8_0 = true := by decide +kernel
theorem rn8_7_4_0_0 : rn8 7 4 0 J8_0 = true := by decide +kernel
end Go.X
