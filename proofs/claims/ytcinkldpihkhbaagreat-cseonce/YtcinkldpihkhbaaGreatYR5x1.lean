/- A part of the proof of this statement: CSEOnce: for every input the law answers true and leaves its argument as it was. -/
import Derived.Test.YtcinkldpihkhbaaGreatYR5d
set_option linter.unusedSectionVars false
set_option linter.unusedVariables false
set_option linter.unusedSimpArgs false
set_option linter.constructorNameAsVariable false
namespace Go.X
set_option maxRecDepth 100000
theorem rn5_1_0 : rn5 1 J5_0 = true := by decide +kernel
theorem rn5_6_0 : rn5 6 J5_0 = true := by decide +kernel
end Go.X
