/- A part of the proof of this statement: FuseRows: for every input the law answers true and leaves its argument as it was. -/
import Derived.Test.YtcinkldpihkhbaaGreatZR7d
set_option linter.unusedSectionVars false
set_option linter.unusedVariables false
set_option linter.unusedSimpArgs false
set_option linter.constructorNameAsVariable false
namespace Go.X
set_option maxRecDepth 100000
theorem rn7_0_0 : rn7 0 J7_0 = true := by decide +kernel
theorem rn7_5_0 : rn7 5 J7_0 = true := by decide +kernel
theorem rn7_10_0 : rn7 10 J7_0 = true := by decide +kernel
theorem rn7_15_0 : rn7 15 J7_0 = true := by decide +kernel
end Go.X
