/- A part of the proof of this statement: FuseRows: for every input the law answers true and leaves its argument as it was. -/
import Derived.Test.YtcinkldpihkhbaaGreatZR7d
set_option linter.unusedSectionVars false
set_option linter.unusedVariables false
set_option linter.unusedSimpArgs false
set_option linter.constructorNameAsVariable false
namespace Go.X
set_option maxRecDepth 100000
theorem rn7_1_0 : rn7 1 J7_0 = true := by decide +kernel
theorem rn7_6_0 : rn7 6 J7_0 = true := by decide +kernel
theorem rn7_11_0 : rn7 11 J7_0 = true := by decide +kernel
theorem rn7_16_0 : rn7 16 J7_0 = true := by decide +kernel
end Go.X
