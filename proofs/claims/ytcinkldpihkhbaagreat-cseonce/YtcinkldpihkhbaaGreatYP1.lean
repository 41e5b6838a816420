/- An executable reading of the model, its soundness over any program, and what it reads of this program. -/
import Derived.Test.YtcinkldpihkhbaaGreatYG1
import Derived.Test.YtcinkldpihkhbaaGreatYXSo
import Derived.Test.YtcinkldpihkhbaaGreatProg
import Derived.KernelRfl
set_option linter.unusedSectionVars false
set_option linter.unusedVariables false
set_option linter.unusedSimpArgs false
set_option linter.constructorNameAsVariable false
namespace Go.X
open Go.Proofs.Tryz
set_option maxRecDepth 100000
noncomputable section
theorem F20_ok : FnOk prog (cD prog) 20 F20 := fnOk_mk (nm := [0, 1, 2, 4]) (by kernel_rfl) (by kernel_rfl)
theorem F34_ok : FnOk prog (cD prog) 34 F34 := fnOk_mk (nm := [0, 1, 4]) (by kernel_rfl) (by kernel_rfl)
theorem F35_ok : FnOk prog (cD prog) 35 F35 := fnOk_mk (nm := [0, 1, 2, 3]) (by kernel_rfl) (by kernel_rfl)
theorem F51_ok : FnOk prog (cD prog) 51 F51 := fnOk_mk (nm := [0, 1, 2, 3, 8, 9, 10, 11, 39, 61, 92]) (by kernel_rfl) (by kernel_rfl)
theorem F73_ok : FnOk prog (cD prog) 73 F73 := fnOk_mk (nm := [0, 1, 2]) (by kernel_rfl) (by kernel_rfl)
theorem F99_ok : FnOk prog (cD prog) 99 F99 := fnOk_mk (nm := [0, 1, 2, 6]) (by kernel_rfl) (by kernel_rfl)
theorem F105_ok : FnOk prog (cD prog) 105 F105 := fnOk_mk (nm := [0, 2, 3, 6, 9, 12, 15, 18]) (by kernel_rfl) (by kernel_rfl)
theorem F106_ok : FnOk prog (cD prog) 106 F106 := fnOk_mk (nm := [0, 1, 2, 4, 5, 24, 25, 26, 27]) (by kernel_rfl) (by kernel_rfl)
theorem F107_ok : FnOk prog (cD prog) 107 F107 := fnOk_mk (nm := [0, 2]) (by kernel_rfl) (by kernel_rfl)
theorem F115_ok : FnOk prog (cD prog) 115 F115 := fnOk_mk (nm := [0, 2]) (by kernel_rfl) (by kernel_rfl)
theorem F121_ok : FnOk prog (cD prog) 121 F121 := fnOk_mk (nm := [0, 1, 2, 3, 4]) (by kernel_rfl) (by kernel_rfl)
theorem F122_ok : FnOk prog (cD prog) 122 F122 := fnOk_mk (nm := [0, 1, 2, 3, 4, 5, 6, 7]) (by kernel_rfl) (by kernel_rfl)
theorem F126_ok : FnOk prog (cD prog) 126 F126 := fnOk_mk (nm := [0, 1, 3]) (by kernel_rfl) (by kernel_rfl)
theorem F140_ok : FnOk prog (cD prog) 140 F140 := fnOk_mk (nm := [0, 2]) (by kernel_rfl) (by kernel_rfl)
theorem F143_ok : FnOk prog (cD prog) 143 F143 := fnOk_mk (nm := [0, 2]) (by kernel_rfl) (by kernel_rfl)
theorem F147_ok : FnOk prog (cD prog) 147 F147 := fnOk_mk (nm := [0, 2, 3, 4]) (by kernel_rfl) (by kernel_rfl)
theorem F157_ok : FnOk prog (cD prog) 157 F157 := fnOk_mk (nm := [0, 1, 2, 3, 4, 5, 6, 7, 8]) (by kernel_rfl) (by kernel_rfl)
theorem F159_ok : FnOk prog (cD prog) 159 F159 := fnOk_mk (nm := [0, 1, 2, 3, 4, 5, 6, 7, 8, 9, 10, 11]) (by kernel_rfl) (by kernel_rfl)
theorem F163_ok : FnOk prog (cD prog) 163 F163 := fnOk_mk (nm := [0, 2, 3]) (by kernel_rfl) (by kernel_rfl)
theorem F164_ok : FnOk prog (cD prog) 164 F164 := fnOk_mk (nm := [0, 1, 4, 5, 6, 7, 8, 9, 10, 11, 58]) (by kernel_rfl) (by kernel_rfl)
theorem F166_ok : FnOk prog (cD prog) 166 F166 := fnOk_mk (nm := [0, 1, 2, 3, 4]) (by kernel_rfl) (by kernel_rfl)
theorem F174_ok : FnOk prog (cD prog) 174 F174 := fnOk_mk (nm := [0, 1, 4, 5, 7, 8, 9, 10, 11, 15, 16, 17, 18]) (by kernel_rfl) (by kernel_rfl)
theorem F200_ok : FnOk prog (cD prog) 200 F200 := fnOk_mk (nm := [0, 2]) (by kernel_rfl) (by kernel_rfl)
theorem F206_ok : FnOk prog (cD prog) 206 F206 := fnOk_mk (nm := [0, 1, 2, 4, 6, 7, 8, 9, 11, 13, 14, 15, 23]) (by kernel_rfl) (by kernel_rfl)
theorem F207_ok : FnOk prog (cD prog) 207 F207 := fnOk_mk (nm := [0, 1, 4, 6, 7, 8, 9, 10]) (by kernel_rfl) (by kernel_rfl)
theorem F210_ok : FnOk prog (cD prog) 210 F210 := fnOk_mk (nm := [0, 2, 3, 4, 7]) (by kernel_rfl) (by kernel_rfl)
theorem F216_ok : FnOk prog (cD prog) 216 F216 := fnOk_mk (nm := [0, 1, 2, 3, 4]) (by kernel_rfl) (by kernel_rfl)
theorem F218_ok : FnOk prog (cD prog) 218 F218 := fnOk_mk (nm := [0, 2, 3, 8]) (by kernel_rfl) (by kernel_rfl)
theorem F220_ok : FnOk prog (cD prog) 220 F220 := fnOk_mk (nm := [0, 1, 2, 4, 5, 6, 7, 8, 9]) (by kernel_rfl) (by kernel_rfl)
theorem F225_ok : FnOk prog (cD prog) 225 F225 := fnOk_mk (nm := [0, 1, 2]) (by kernel_rfl) (by kernel_rfl)
theorem F226_ok : FnOk prog (cD prog) 226 F226 := fnOk_mk (nm := [0, 1, 2, 4, 6, 7, 8, 9, 10, 11, 12, 13]) (by kernel_rfl) (by kernel_rfl)
theorem F228_ok : FnOk prog (cD prog) 228 F228 := fnOk_mk (nm := [0, 2]) (by kernel_rfl) (by kernel_rfl)
theorem F257_ok : FnOk prog (cD prog) 257 F257 := fnOk_mk (nm := [0, 2, 3, 4, 5]) (by kernel_rfl) (by kernel_rfl)
theorem F267_ok : FnOk prog (cD prog) 267 F267 := fnOk_mk (nm := [0, 1, 3, 4, 6, 7]) (by kernel_rfl) (by kernel_rfl)
theorem F276_ok : FnOk prog (cD prog) 276 F276 := fnOk_mk (nm := [0, 1, 2, 6]) (by kernel_rfl) (by kernel_rfl)
theorem F277_ok : FnOk prog (cD prog) 277 F277 := fnOk_mk (nm := [0, 1, 2, 3, 4, 8, 9, 10]) (by kernel_rfl) (by kernel_rfl)
theorem F280_ok : FnOk prog (cD prog) 280 F280 := fnOk_mk (nm := [0, 1, 2, 6, 7]) (by kernel_rfl) (by kernel_rfl)
theorem F284_ok : FnOk prog (cD prog) 284 F284 := fnOk_mk (nm := [0, 1, 2, 6]) (by kernel_rfl) (by kernel_rfl)
theorem F285_ok : FnOk prog (cD prog) 285 F285 := fnOk_mk (nm := [0, 1, 2, 3, 8, 9, 10]) (by kernel_rfl) (by kernel_rfl)
theorem F297_ok : FnOk prog (cD prog) 297 F297 := fnOk_mk (nm := [0, 1, 4, 15, 16, 29, 35]) (by kernel_rfl) (by kernel_rfl)
theorem F304_ok : FnOk prog (cD prog) 304 F304 := fnOk_mk (nm := [0, 1, 2, 6, 7]) (by kernel_rfl) (by kernel_rfl)
theorem F312_ok : FnOk prog (cD prog) 312 F312 := fnOk_mk (nm := [0, 2]) (by kernel_rfl) (by kernel_rfl)
theorem F314_ok : FnOk prog (cD prog) 314 F314 := fnOk_mk (nm := [0, 2]) (by kernel_rfl) (by kernel_rfl)
theorem F315_ok : FnOk prog (cD prog) 315 F315 := fnOk_mk (nm := [0, 1, 2, 6]) (by kernel_rfl) (by kernel_rfl)
theorem F320_ok : FnOk prog (cD prog) 320 F320 := fnOk_mk (nm := [0, 2]) (by kernel_rfl) (by kernel_rfl)
theorem F321_ok : FnOk prog (cD prog) 321 F321 := fnOk_mk (nm := [0, 1, 4, 5]) (by kernel_rfl) (by kernel_rfl)
theorem F325_ok : FnOk prog (cD prog) 325 F325 := fnOk_mk (nm := [0, 2]) (by kernel_rfl) (by kernel_rfl)
end
end Go.X
