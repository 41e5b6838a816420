/- A part of the proof of this statement: FuseRows: for every input the law answers true and leaves its argument as it was. -/
import Derived.Test.YtcinkldpihkhbaaGreatZR7d
set_option linter.unusedSectionVars false
set_option linter.unusedVariables false
set_option linter.unusedSimpArgs false
set_option linter.constructorNameAsVariable false
namespace Go.X
set_option maxRecDepth 100000
theorem rn7_4_0 : rn7 4 J7_0 = true := by decide +kernel
theorem rn7_9_0 : rn7 9 J7_0 = true := by decide +kernel
theorem rn7_14_0 : rn7 14 J7_0 = true := by decide +kernel
theorem rn7_19_0 : rn7 19 J7_0 = true := by decide +kernel
end Go.X
