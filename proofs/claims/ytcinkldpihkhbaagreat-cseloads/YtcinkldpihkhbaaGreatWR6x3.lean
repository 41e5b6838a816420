/- A part of the proof of this statement: CSELoads: for every input the law answers true and leaves its argument as it was. -/
import Derived.Test.YtcinkldpihkhbaaGreatWR6d
set_option linter.unusedSectionVars false
set_option linter.unusedVariables false
set_option linter.unusedSimpArgs false
set_option linter.constructorNameAsVariable false
namespace Go.X
set_option maxRecDepth 100000
theorem rn6_3_0 : rn6 3 J6_0 = true := by decide +kernel
end Go.X
