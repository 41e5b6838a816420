/- An executable reading of the model, its soundness over any program, and what it reads of this program. -/
import Derived.Test.YtcinkldpihkhbaaGreatWG0
import Derived.Test.YtcinkldpihkhbaaGreatWXSo
import Derived.Test.YtcinkldpihkhbaaGreatProg
import Derived.KernelRfl
set_option linter.unusedSectionVars false
set_option linter.unusedVariables false
set_option linter.unusedSimpArgs false
set_option linter.constructorNameAsVariable false
namespace Go.X
open Go.Proofs.Tryz
set_option maxRecDepth 100000
noncomputable section
theorem F16_ok : FnIn prog (cD prog) 16 F16 := .inl (fnOk_mk (nm := [0, 1]) (by kernel_rfl) (by kernel_rfl) rfl)
theorem F26_ok : FnIn prog (cD prog) 26 F26 := .inl (fnOk_mk (nm := [0, 1, 3, 4, 5]) (by kernel_rfl) (by kernel_rfl) rfl)
theorem F31_ok : FnIn prog (cD prog) 31 F31 := .inl (fnOk_mk (nm := [0, 1, 2, 3]) (by kernel_rfl) (by kernel_rfl) rfl)
theorem F64_ok : FnIn prog (cD prog) 64 F64 := .inl (fnOk_mk (nm := [0, 2]) (by kernel_rfl) (by kernel_rfl) rfl)
theorem F68_ok : FnIn prog (cD prog) 68 F68 := .inl (fnOk_mk (nm := [0, 1, 2, 4, 5, 6]) (by kernel_rfl) (by kernel_rfl) rfl)
theorem F69_ok : FnIn prog (cD prog) 69 F69 := .inl (fnOk_mk (nm := [0, 1, 2, 3, 6, 7, 8]) (by kernel_rfl) (by kernel_rfl) rfl)
theorem F70_ok : FnIn prog (cD prog) 70 F70 := .inl (fnOk_mk (nm := [0, 2]) (by kernel_rfl) (by kernel_rfl) rfl)
theorem F72_ok : FnIn prog (cD prog) 72 F72 := .inl (fnOk_mk (nm := [0, 1, 2, 3, 4, 5, 6, 7, 8, 9, 25, 26, 27, 28]) (by kernel_rfl) (by kernel_rfl) rfl)
theorem F74_ok : FnIn prog (cD prog) 74 F74 := .inl (fnOk_mk (nm := [0, 1, 2, 4, 5, 6, 7, 8, 9, 10, 11, 13, 14, 16, 26, 27, 28, 37, 38, 39, 40, 54, 55, 56, 64, 65, 66, 67, 95]) (by kernel_rfl) (by kernel_rfl) rfl)
theorem F77_ok : FnIn prog (cD prog) 77 F77 := .inl (fnOk_mk (nm := [0, 2, 3, 4]) (by kernel_rfl) (by kernel_rfl) rfl)
theorem F79_ok : FnIn prog (cD prog) 79 F79 := .inl (fnOk_mk (nm := [0, 1, 2, 4, 5, 6, 12, 13, 14, 31, 32, 33]) (by kernel_rfl) (by kernel_rfl) rfl)
theorem F90_ok : FnIn prog (cD prog) 90 F90 := .inl (fnOk_mk (nm := [0, 1, 4]) (by kernel_rfl) (by kernel_rfl) rfl)
theorem F91_ok : FnIn prog (cD prog) 91 F91 := .inl (fnOk_mk (nm := [0, 1, 4]) (by kernel_rfl) (by kernel_rfl) rfl)
theorem F95_ok : FnIn prog (cD prog) 95 F95 := .inl (fnOk_mk (nm := [0, 1, 4, 5]) (by kernel_rfl) (by kernel_rfl) rfl)
theorem F96_ok : FnIn prog (cD prog) 96 F96 := .inl (fnOk_mk (nm := [0, 1, 2, 6, 7]) (by kernel_rfl) (by kernel_rfl) rfl)
theorem F109_ok : FnIn prog (cD prog) 109 F109 := .inl (fnOk_mk (nm := [0, 1, 4, 5, 6, 7]) (by kernel_rfl) (by kernel_rfl) rfl)
theorem F114_ok : FnIn prog (cD prog) 114 F114 := .inl (fnOk_mk (nm := [0, 2]) (by kernel_rfl) (by kernel_rfl) rfl)
theorem F117_ok : FnIn prog (cD prog) 117 F117 := .inl (fnOk_mk (nm := [0, 1, 2, 6, 7, 8, 9, 10]) (by kernel_rfl) (by kernel_rfl) rfl)
theorem F120_ok : FnIn prog (cD prog) 120 F120 := .inl (fnOk_mk (nm := [0, 1, 4]) (by kernel_rfl) (by kernel_rfl) rfl)
theorem F148_ok : FnIn prog (cD prog) 148 F148 := .inl (fnOk_mk (nm := [0, 1]) (by kernel_rfl) (by kernel_rfl) rfl)
theorem F151_ok : FnIn prog (cD prog) 151 F151 := .inl (fnOk_mk (nm := [0, 2, 3, 4, 6, 7, 12, 13, 14, 15, 48, 49, 50, 51, 59]) (by kernel_rfl) (by kernel_rfl) rfl)
theorem F154_ok : FnIn prog (cD prog) 154 F154 := .inl (fnOk_mk (nm := [0, 2]) (by kernel_rfl) (by kernel_rfl) rfl)
theorem F155_ok : FnIn prog (cD prog) 155 F155 := .inl (fnOk_mk (nm := [0, 1, 4, 5, 7, 8, 9]) (by kernel_rfl) (by kernel_rfl) rfl)
theorem F160_ok : FnIn prog (cD prog) 160 F160 := .inl (fnOk_mk (nm := [0, 2, 3, 4, 5, 6, 7, 8, 9]) (by kernel_rfl) (by kernel_rfl) rfl)
theorem F161_ok : FnIn prog (cD prog) 161 F161 := .inl (fnOk_mk (nm := [0, 2, 3, 4, 5, 6, 7, 8, 9, 10, 11, 12]) (by kernel_rfl) (by kernel_rfl) rfl)
theorem F162_ok : FnIn prog (cD prog) 162 F162 := .inl (fnOk_mk (nm := [0, 1, 4, 5, 12, 13, 14]) (by kernel_rfl) (by kernel_rfl) rfl)
theorem F201_ok : FnIn prog (cD prog) 201 F201 := .inl (fnOk_mk (nm := [0, 3, 25, 26, 27, 28]) (by kernel_rfl) (by kernel_rfl) rfl)
theorem F203_ok : FnIn prog (cD prog) 203 F203 := .inl (fnOk_mk (nm := [0, 1, 4]) (by kernel_rfl) (by kernel_rfl) rfl)
theorem F209_ok : FnIn prog (cD prog) 209 F209 := .inl (fnOk_mk (nm := [0, 1, 2, 4]) (by kernel_rfl) (by kernel_rfl) rfl)
theorem F211_ok : FnIn prog (cD prog) 211 F211 := .inl (fnOk_mk (nm := [0, 1, 3]) (by kernel_rfl) (by kernel_rfl) rfl)
theorem F214_ok : FnIn prog (cD prog) 214 F214 := .inl (fnOk_mk (nm := [0, 1, 2]) (by kernel_rfl) (by kernel_rfl) rfl)
theorem F219_ok : FnIn prog (cD prog) 219 F219 := .inl (fnOk_mk (nm := [0, 1, 4, 5, 6]) (by kernel_rfl) (by kernel_rfl) rfl)
theorem F221_ok : FnIn prog (cD prog) 221 F221 := .inl (fnOk_mk (nm := [0, 1, 4, 5, 6, 7, 8, 9, 22]) (by kernel_rfl) (by kernel_rfl) rfl)
theorem F230_ok : FnIn prog (cD prog) 230 F230 := .inl (fnOk_mk (nm := [0, 1, 2, 3, 6, 7, 8, 9, 10, 11]) (by kernel_rfl) (by kernel_rfl) rfl)
theorem F231_ok : FnIn prog (cD prog) 231 F231 := .inl (fnOk_mk (nm := [0, 1, 2, 4, 6, 7, 8]) (by kernel_rfl) (by kernel_rfl) rfl)
theorem F263_ok : FnIn prog (cD prog) 263 F263 := .inl (fnOk_mk (nm := [0, 2]) (by kernel_rfl) (by kernel_rfl) rfl)
theorem F268_ok : FnIn prog (cD prog) 268 F268 := .inl (fnOk_mk (nm := [0, 1, 2, 4, 5]) (by kernel_rfl) (by kernel_rfl) rfl)
theorem F274_ok : FnIn prog (cD prog) 274 F274 := .inl (fnOk_mk (nm := [0, 1, 4]) (by kernel_rfl) (by kernel_rfl) rfl)
theorem F275_ok : FnIn prog (cD prog) 275 F275 := .inl (fnOk_mk (nm := [0, 2]) (by kernel_rfl) (by kernel_rfl) rfl)
theorem F296_ok : FnIn prog (cD prog) 296 F296 := .inl (fnOk_mk (nm := [0, 2]) (by kernel_rfl) (by kernel_rfl) rfl)
theorem F308_ok : FnIn prog (cD prog) 308 F308 := .inl (fnOk_mk (nm := [0, 1, 2, 6, 7]) (by kernel_rfl) (by kernel_rfl) rfl)
theorem F309_ok : FnIn prog (cD prog) 309 F309 := .inl (fnOk_mk (nm := [0, 1, 2, 6, 7, 8, 9, 10]) (by kernel_rfl) (by kernel_rfl) rfl)
theorem F316_ok : FnIn prog (cD prog) 316 F316 := .inl (fnOk_mk (nm := [0, 1, 4]) (by kernel_rfl) (by kernel_rfl) rfl)
theorem F322_ok : FnIn prog (cD prog) 322 F322 := .inl (fnOk_mk (nm := [0, 2]) (by kernel_rfl) (by kernel_rfl) rfl)
theorem F324_ok : FnIn prog (cD prog) 324 F324 := .inl (fnOk_mk (nm := [0, 2]) (by kernel_rfl) (by kernel_rfl) rfl)
theorem F326_ok : FnIn prog (cD prog) 326 F326 := .inl (fnOk_mk (nm := [0, 1, 2, 6]) (by kernel_rfl) (by kernel_rfl) rfl)
theorem F328_ok : FnIn prog (cD prog) 328 F328 := .inl (fnOk_mk (nm := [0, 2]) (by kernel_rfl) (by kernel_rfl) rfl)
end
end Go.X
