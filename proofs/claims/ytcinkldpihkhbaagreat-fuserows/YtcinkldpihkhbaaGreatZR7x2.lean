/- A part of the proof of this statement: FuseRows: for every input the law answers true and leaves its argument as it was. -/
import Derived.Test.YtcinkldpihkhbaaGreatZR7d
set_option linter.unusedSectionVars false
set_option linter.unusedVariables false
set_option linter.unusedSimpArgs false
set_option linter.constructorNameAsVariable false
namespace Go.X
set_option maxRecDepth 100000
theorem rn7_2_0 : rn7 2 J7_0 = true := by decide +kernel
theorem rn7_7_0 : rn7 7 J7_0 = true := by decide +kernel
theorem rn7_12_0 : rn7 12 J7_0 = true := by decide +kernel
theorem rn7_17_0 : rn7 17 J7_0 = true := by decide +kernel
end Go.X
