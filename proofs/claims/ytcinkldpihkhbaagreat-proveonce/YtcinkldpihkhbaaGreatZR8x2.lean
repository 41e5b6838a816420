/- A part of the proof of this statement: ProveOnce: for every input the law answers true and leaves its argument as it was. -/
import Derived.Test.YtcinkldpihkhbaaGreatZR8d
set_option linter.unusedSectionVars false
set_option linter.unusedVariables false
set_option linter.unusedSimpArgs false
set_option linter.constructorNameAsVariable false
namespace Go.X
set_option maxRecDepth 100000
theorem rn8_0_0_2_0 : rn8 0 0 2 J8_0 = true := by decide +kernel
theorem rn8_0_4_2_0 : rn8 0 4 2 J8_0 = true := by decide +kernel
theorem rn8_1_2_2_0 : rn8 1 2 2 J8_0 = true := by decide +kernel
theorem rn8_2_0_2_0 : rn8 2 0 2 J8_0 = true := by decide +kernel
theorem rn8_2_4_2_0 : rn8 2 4 2 J8_0 = true := by decide +kernel
theorem rn8_3_2_2_0 : rn8 3 2 2 J8_0 = true := by decide +kernel
theorem rn8_4_0_2_0 : rn8 4 0 2 J8_0 = true := by decide +kernel
theorem rn8_4_4_2_0 : rn8 4 4 2 J8_0 = true := by decide +kernel
theorem rn8_5_2_2_0 : rn8 5 2 2 J8_0 = true := by decide +kernel
theorem rn8_6_0_2_0 : rn8 6 0 2 J8_0 = true := by decide +kernel
theorem rn8_6_4_2_0 : rn8 6 4 2 J8_0 = true := by decide +kernel
theorem rn8_7_2_2_0 : rn8 7 2 2 J8_0 = true := by decide +kernel
end Go.X
