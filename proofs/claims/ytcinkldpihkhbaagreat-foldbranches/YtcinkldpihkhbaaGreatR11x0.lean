/- The executable reading of the model and its soundness, or the program, or a run. (a part of the proof of: FoldBranches: for every input the law answers true and leaves its argument as it was.) -/
import Derived.Test.YtcinkldpihkhbaaGreatR11d
set_option linter.unusedSectionVars false
set_option linter.unusedVariables false
set_option linter.unusedSimpArgs false
set_option linter.constructorNameAsVariable false
namespace Go.X
set_option maxRecDepth 100000
theorem rn11_0_0 : rn11 0 J11_0 = true := by kernel_rfl
theorem rn11_1_0 : rn11 1 J11_0 = true := by kernel_rfl
end Go.X
