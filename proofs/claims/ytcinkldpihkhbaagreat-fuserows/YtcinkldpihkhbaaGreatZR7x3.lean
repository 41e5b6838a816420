/- A part of the proof of this statement: FuseRows: for every input the law answers true and leaves its argument as it was. -/
import Derived.Test.YtcinkldpihkhbaaGreatZR7d
set_option linter.unusedSectionVars false
set_option linter.unusedVariables false
set_option linter.unusedSimpArgs false
set_option linter.constructorNameAsVariable false
namespace Go.X
set_option maxRecDepth 100000
theorem rn7_3_0 : rn7 3 J7_0 = true := by decide +kernel
theorem rn7_8_0 : rn7 8 J7_0 = true := by decide +kernel
theorem rn7_13_0 : rn7 13 J7_0 = true := by decide +kernel
theorem rn7_18_0 : rn7 18 J7_0 = true := by decide +kernel
end Go.X
