/- An executable reading of the model, its soundness over any program, and what it reads of this program. -/
import Derived.Test.YtcinkldpihkhbaaGreatYG0
import Derived.Test.YtcinkldpihkhbaaGreatYXSo
import Derived.Test.YtcinkldpihkhbaaGreatProg
import Derived.KernelRfl
set_option linter.unusedSectionVars false
set_option linter.unusedVariables false
set_option linter.unusedSimpArgs false
set_option linter.constructorNameAsVariable false
namespace Go.X
open Go.Proofs.Tryz
set_option maxRecDepth 100000
noncomputable section
theorem F14_ok : FnOk prog (cD prog) 14 F14 := fnOk_mk (nm := [0, 1, 2, 3, 8, 9]) (by kernel_rfl) (by kernel_rfl)
theorem F16_ok : FnOk prog (cD prog) 16 F16 := fnOk_mk (nm := [0, 1]) (by kernel_rfl) (by kernel_rfl)
theorem F23_ok : FnOk prog (cD prog) 23 F23 := fnOk_mk (nm := [0, 1, 2]) (by kernel_rfl) (by kernel_rfl)
theorem F26_ok : FnOk prog (cD prog) 26 F26 := fnOk_mk (nm := [0, 1, 3, 4, 5]) (by kernel_rfl) (by kernel_rfl)
theorem F31_ok : FnOk prog (cD prog) 31 F31 := fnOk_mk (nm := [0, 1, 2, 3]) (by kernel_rfl) (by kernel_rfl)
theorem F64_ok : FnOk prog (cD prog) 64 F64 := fnOk_mk (nm := [0, 2]) (by kernel_rfl) (by kernel_rfl)
theorem F68_ok : FnOk prog (cD prog) 68 F68 := fnOk_mk (nm := [0, 1, 2, 4, 5, 6]) (by kernel_rfl) (by kernel_rfl)
theorem F69_ok : FnOk prog (cD prog) 69 F69 := fnOk_mk (nm := [0, 1, 2, 3, 6, 7, 8]) (by kernel_rfl) (by kernel_rfl)
theorem F70_ok : FnOk prog (cD prog) 70 F70 := fnOk_mk (nm := [0, 2]) (by kernel_rfl) (by kernel_rfl)
theorem F72_ok : FnOk prog (cD prog) 72 F72 := fnOk_mk (nm := [0, 1, 2, 3, 4, 5, 6, 7, 8, 9, 25, 26, 27, 28]) (by kernel_rfl) (by kernel_rfl)
theorem F74_ok : FnOk prog (cD prog) 74 F74 := fnOk_mk (nm := [0, 1, 2, 4, 5, 6, 7, 8, 9, 10, 11, 13, 14, 16, 26, 27, 28, 37, 38, 39, 40, 54, 55, 56, 64, 65, 66, 67, 95]) (by kernel_rfl) (by kernel_rfl)
theorem F77_ok : FnOk prog (cD prog) 77 F77 := fnOk_mk (nm := [0, 2, 3, 4]) (by kernel_rfl) (by kernel_rfl)
theorem F79_ok : FnOk prog (cD prog) 79 F79 := fnOk_mk (nm := [0, 1, 2, 4, 5, 6, 12, 13, 14, 31, 32, 33]) (by kernel_rfl) (by kernel_rfl)
theorem F90_ok : FnOk prog (cD prog) 90 F90 := fnOk_mk (nm := [0, 1, 4]) (by kernel_rfl) (by kernel_rfl)
theorem F91_ok : FnOk prog (cD prog) 91 F91 := fnOk_mk (nm := [0, 1, 4]) (by kernel_rfl) (by kernel_rfl)
theorem F96_ok : FnOk prog (cD prog) 96 F96 := fnOk_mk (nm := [0, 1, 2, 6, 7]) (by kernel_rfl) (by kernel_rfl)
theorem F109_ok : FnOk prog (cD prog) 109 F109 := fnOk_mk (nm := [0, 1, 4, 5, 6, 7]) (by kernel_rfl) (by kernel_rfl)
theorem F114_ok : FnOk prog (cD prog) 114 F114 := fnOk_mk (nm := [0, 2]) (by kernel_rfl) (by kernel_rfl)
theorem F117_ok : FnOk prog (cD prog) 117 F117 := fnOk_mk (nm := [0, 1, 2, 6, 7, 8, 9, 10]) (by kernel_rfl) (by kernel_rfl)
theorem F120_ok : FnOk prog (cD prog) 120 F120 := fnOk_mk (nm := [0, 1, 4]) (by kernel_rfl) (by kernel_rfl)
theorem F148_ok : FnOk prog (cD prog) 148 F148 := fnOk_mk (nm := [0, 1]) (by kernel_rfl) (by kernel_rfl)
theorem F151_ok : FnOk prog (cD prog) 151 F151 := fnOk_mk (nm := [0, 2, 3, 4, 6, 7, 12, 13, 14, 15, 48, 49, 50, 51, 59]) (by kernel_rfl) (by kernel_rfl)
theorem F154_ok : FnOk prog (cD prog) 154 F154 := fnOk_mk (nm := [0, 2]) (by kernel_rfl) (by kernel_rfl)
theorem F160_ok : FnOk prog (cD prog) 160 F160 := fnOk_mk (nm := [0, 2, 3, 4, 5, 6, 7, 8, 9]) (by kernel_rfl) (by kernel_rfl)
theorem F161_ok : FnOk prog (cD prog) 161 F161 := fnOk_mk (nm := [0, 2, 3, 4, 5, 6, 7, 8, 9, 10, 11, 12]) (by kernel_rfl) (by kernel_rfl)
theorem F201_ok : FnOk prog (cD prog) 201 F201 := fnOk_mk (nm := [0, 3, 25, 26, 27, 28]) (by kernel_rfl) (by kernel_rfl)
theorem F204_ok : FnOk prog (cD prog) 204 F204 := fnOk_mk (nm := [0, 1, 4]) (by kernel_rfl) (by kernel_rfl)
theorem F209_ok : FnOk prog (cD prog) 209 F209 := fnOk_mk (nm := [0, 1, 2, 4]) (by kernel_rfl) (by kernel_rfl)
theorem F214_ok : FnOk prog (cD prog) 214 F214 := fnOk_mk (nm := [0, 1, 2]) (by kernel_rfl) (by kernel_rfl)
theorem F221_ok : FnOk prog (cD prog) 221 F221 := fnOk_mk (nm := [0, 1, 4, 5, 6, 7, 8, 9, 22]) (by kernel_rfl) (by kernel_rfl)
theorem F230_ok : FnOk prog (cD prog) 230 F230 := fnOk_mk (nm := [0, 1, 2, 3, 6, 7, 8, 9, 10, 11]) (by kernel_rfl) (by kernel_rfl)
theorem F231_ok : FnOk prog (cD prog) 231 F231 := fnOk_mk (nm := [0, 1, 2, 4, 6, 7, 8]) (by kernel_rfl) (by kernel_rfl)
theorem F232_ok : FnOk prog (cD prog) 232 F232 := fnOk_mk (nm := [0, 1, 4, 5]) (by kernel_rfl) (by kernel_rfl)
theorem F263_ok : FnOk prog (cD prog) 263 F263 := fnOk_mk (nm := [0, 2]) (by kernel_rfl) (by kernel_rfl)
theorem F268_ok : FnOk prog (cD prog) 268 F268 := fnOk_mk (nm := [0, 1, 2, 4, 5]) (by kernel_rfl) (by kernel_rfl)
theorem F274_ok : FnOk prog (cD prog) 274 F274 := fnOk_mk (nm := [0, 1, 4]) (by kernel_rfl) (by kernel_rfl)
theorem F275_ok : FnOk prog (cD prog) 275 F275 := fnOk_mk (nm := [0, 2]) (by kernel_rfl) (by kernel_rfl)
theorem F279_ok : FnOk prog (cD prog) 279 F279 := fnOk_mk (nm := [0, 2]) (by kernel_rfl) (by kernel_rfl)
theorem F296_ok : FnOk prog (cD prog) 296 F296 := fnOk_mk (nm := [0, 2]) (by kernel_rfl) (by kernel_rfl)
theorem F309_ok : FnOk prog (cD prog) 309 F309 := fnOk_mk (nm := [0, 1, 2, 6, 7, 8, 9, 10]) (by kernel_rfl) (by kernel_rfl)
theorem F316_ok : FnOk prog (cD prog) 316 F316 := fnOk_mk (nm := [0, 1, 4]) (by kernel_rfl) (by kernel_rfl)
theorem F322_ok : FnOk prog (cD prog) 322 F322 := fnOk_mk (nm := [0, 2]) (by kernel_rfl) (by kernel_rfl)
theorem F324_ok : FnOk prog (cD prog) 324 F324 := fnOk_mk (nm := [0, 2]) (by kernel_rfl) (by kernel_rfl)
theorem F326_ok : FnOk prog (cD prog) 326 F326 := fnOk_mk (nm := [0, 1, 2, 6]) (by kernel_rfl) (by kernel_rfl)
theorem F327_ok : FnOk prog (cD prog) 327 F327 := fnOk_mk (nm := [0, 1, 2, 3, 4, 10]) (by kernel_rfl) (by kernel_rfl)
theorem F328_ok : FnOk prog (cD prog) 328 F328 := fnOk_mk (nm := [0, 2]) (by kernel_rfl) (by kernel_rfl)
theorem F329_ok : FnOk prog (cD prog) 329 F329 := fnOk_mk (nm := [0, 1, 2, 3, 8, 9]) (by kernel_rfl) (by kernel_rfl)
end
end Go.X
