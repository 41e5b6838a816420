/- An executable reading of the model, its soundness over any program, and what it reads of this program. -/
import Derived.Test.YtcinkldpihkhbaaGreatVG3
import Derived.Test.YtcinkldpihkhbaaGreatVXSo
import Derived.Test.YtcinkldpihkhbaaGreatProg
import Derived.KernelRfl
set_option linter.unusedSectionVars false
set_option linter.unusedVariables false
set_option linter.unusedSimpArgs false
set_option linter.constructorNameAsVariable false
namespace Go.X
open Go.Proofs.Tryz
set_option maxRecDepth 100000
noncomputable section
theorem F16_ok : FnIn prog (cD prog) 16 F16 := .inl (fnOk_mk (nm := [0, 1]) (by kernel_rfl) (by kernel_rfl) rfl)
theorem F25_ok : FnIn prog (cD prog) 25 F25 := .inl (fnOk_mk (nm := [0, 1, 2]) (by kernel_rfl) (by kernel_rfl) rfl)
theorem F46_ok : FnIn prog (cD prog) 46 F46 := .inl (fnOk_mk (nm := [0, 2]) (by kernel_rfl) (by kernel_rfl) rfl)
theorem F63_ok : FnIn prog (cD prog) 63 F63 := .inl (fnOk_mk (nm := [0, 1, 2, 3, 4]) (by kernel_rfl) (by kernel_rfl) rfl)
theorem F68_ok : FnIn prog (cD prog) 68 F68 := .inl (fnOk_mk (nm := [0, 1, 2, 4, 5, 6]) (by kernel_rfl) (by kernel_rfl) rfl)
theorem F69_ok : FnIn prog (cD prog) 69 F69 := .inl (fnOk_mk (nm := [0, 1, 2, 3, 6, 7, 8]) (by kernel_rfl) (by kernel_rfl) rfl)
theorem F70_ok : FnIn prog (cD prog) 70 F70 := .inl (fnOk_mk (nm := [0, 2]) (by kernel_rfl) (by kernel_rfl) rfl)
theorem F85_ok : FnIn prog (cD prog) 85 F85 := .inl (fnOk_mk (nm := [0, 2, 3, 4, 7, 9, 10, 11, 13, 14, 15, 17, 44, 45, 46, 47, 51, 52, 53, 54, 71, 72, 73, 74, 79, 80, 81, 82, 105, 106, 107, 108, 113, 114, 115, 116]) (by kernel_rfl) (by kernel_rfl) rfl)
theorem F87_ok : FnIn prog (cD prog) 87 F87 := .inl (fnOk_mk (nm := [0, 1, 2, 4, 6, 7, 8, 9]) (by kernel_rfl) (by kernel_rfl) rfl)
theorem F88_ok : FnIn prog (cD prog) 88 F88 := .inl (fnOk_mk (nm := [0, 2, 3, 4]) (by kernel_rfl) (by kernel_rfl) rfl)
theorem F89_ok : FnIn prog (cD prog) 89 F89 := .inl (fnOk_mk (nm := [0, 2, 3]) (by kernel_rfl) (by kernel_rfl) rfl)
theorem F99_ok : FnIn prog (cD prog) 99 F99 := .inl (fnOk_mk (nm := [0, 1, 2, 6]) (by kernel_rfl) (by kernel_rfl) rfl)
theorem F108_ok : FnIn prog (cD prog) 108 F108 := .inl (fnOk_mk (nm := [0, 1, 2, 3, 5, 7, 17, 18, 19, 20, 39, 40, 41, 42]) (by kernel_rfl) (by kernel_rfl) rfl)
theorem F110_ok : FnIn prog (cD prog) 110 F110 := .inl (fnOk_mk (nm := [0, 1, 2, 3, 4, 5]) (by kernel_rfl) (by kernel_rfl) rfl)
theorem F114_ok : FnIn prog (cD prog) 114 F114 := .inl (fnOk_mk (nm := [0, 2]) (by kernel_rfl) (by kernel_rfl) rfl)
theorem F117_ok : FnIn prog (cD prog) 117 F117 := .inl (fnOk_mk (nm := [0, 1, 2, 6, 7, 8, 9, 10]) (by kernel_rfl) (by kernel_rfl) rfl)
theorem F132_ok : FnIn prog (cD prog) 132 F132 := .inl (fnOk_mk (nm := [0, 2, 3, 4, 5, 7, 15, 16, 17, 27, 28, 29, 38, 39, 40, 41]) (by kernel_rfl) (by kernel_rfl) rfl)
theorem F135_ok : FnIn prog (cD prog) 135 F135 := .inl (fnOk_mk (nm := [0, 1, 4, 12, 13]) (by kernel_rfl) (by kernel_rfl) rfl)
theorem F136_ok : FnIn prog (cD prog) 136 F136 := .inl (fnOk_mk (nm := [0, 1, 3]) (by kernel_rfl) (by kernel_rfl) rfl)
theorem F138_ok : FnIn prog (cD prog) 138 F138 := .inl (fnOk_mk (nm := [0, 1, 2, 3]) (by kernel_rfl) (by kernel_rfl) rfl)
theorem F140_ok : FnIn prog (cD prog) 140 F140 := .inl (fnOk_mk (nm := [0, 2]) (by kernel_rfl) (by kernel_rfl) rfl)
theorem F142_ok : FnIn prog (cD prog) 142 F142 := .inl (fnOk_mk (nm := [0, 2, 3, 6, 9, 12, 15]) (by kernel_rfl) (by kernel_rfl) rfl)
theorem F143_ok : FnIn prog (cD prog) 143 F143 := .inl (fnOk_mk (nm := [0, 2]) (by kernel_rfl) (by kernel_rfl) rfl)
theorem F149_ok : FnIn prog (cD prog) 149 F149 := .inl (fnOk_mk (nm := [0, 2, 4, 5, 6, 7, 41, 42, 43, 44, 100, 101, 102, 113, 114, 115, 123, 124, 125]) (by kernel_rfl) (by kernel_rfl) rfl)
theorem F151_ok : FnIn prog (cD prog) 151 F151 := .inl (fnOk_mk (nm := [0, 2, 3, 4, 6, 7, 12, 13, 14, 15, 48, 49, 50, 51, 59]) (by kernel_rfl) (by kernel_rfl) rfl)
theorem F152_ok : FnIn prog (cD prog) 152 F152 := .inl (fnOk_mk (nm := [0, 1, 2, 3, 4, 5, 6, 7, 8, 37, 38, 39, 40, 45, 46, 47, 48, 61, 62, 63, 64]) (by kernel_rfl) (by kernel_rfl) rfl)
theorem F153_ok : FnIn prog (cD prog) 153 F153 := .inl (fnOk_mk (nm := [0, 1, 2, 4, 5, 6, 8, 9, 10, 11, 13, 14, 15, 16, 17, 18, 30, 31, 32, 53, 54, 55, 56, 123, 124, 125, 126, 150, 151, 152, 153, 162, 163, 164, 165]) (by kernel_rfl) (by kernel_rfl) rfl)
theorem F156_ok : FnIn prog (cD prog) 156 F156 := .inl (fnOk_mk (nm := [0, 2, 3, 4, 5, 6, 7, 8]) (by kernel_rfl) (by kernel_rfl) rfl)
theorem F167_ok : FnIn prog (cD prog) 167 F167 := .inl (fnOk_mk (nm := [0, 1, 3]) (by kernel_rfl) (by kernel_rfl) rfl)
theorem F175_ok : FnIn prog (cD prog) 175 F175 := .inl (fnOk_mk (nm := [0, 1, 4]) (by kernel_rfl) (by kernel_rfl) rfl)
theorem F180_ok : FnIn prog (cD prog) 180 F180 := .inl (fnOk_mk (nm := [0, 1, 4, 5]) (by kernel_rfl) (by kernel_rfl) rfl)
theorem F186_ok : FnIn prog (cD prog) 186 F186 := .inl (fnOk_mk (nm := [0, 2, 3, 4]) (by kernel_rfl) (by kernel_rfl) rfl)
theorem F202_ok : FnIn prog (cD prog) 202 F202 := .inl (fnOk_mk (nm := [0, 1, 4, 5, 6, 7, 8, 9, 10, 11, 63, 64, 97, 98, 99, 100]) (by kernel_rfl) (by kernel_rfl) rfl)
theorem F207_ok : FnIn prog (cD prog) 207 F207 := .inl (fnOk_mk (nm := [0, 1, 4, 6, 7, 8, 9, 10]) (by kernel_rfl) (by kernel_rfl) rfl)
theorem F208_ok : FnIn prog (cD prog) 208 F208 := .inl (fnOk_mk (nm := [0, 1, 2, 6]) (by kernel_rfl) (by kernel_rfl) rfl)
theorem F211_ok : FnIn prog (cD prog) 211 F211 := .inl (fnOk_mk (nm := [0, 1, 3]) (by kernel_rfl) (by kernel_rfl) rfl)
theorem F222_ok : FnIn prog (cD prog) 222 F222 := .inl (fnOk_mk (nm := [0, 1, 4]) (by kernel_rfl) (by kernel_rfl) rfl)
theorem F228_ok : FnIn prog (cD prog) 228 F228 := .inl (fnOk_mk (nm := [0, 2]) (by kernel_rfl) (by kernel_rfl) rfl)
theorem F230_ok : FnIn prog (cD prog) 230 F230 := .inl (fnOk_mk (nm := [0, 1, 2, 3, 6, 7, 8, 9, 10, 11]) (by kernel_rfl) (by kernel_rfl) rfl)
theorem F232_ok : FnIn prog (cD prog) 232 F232 := .inl (fnOk_mk (nm := [0, 1, 4, 5]) (by kernel_rfl) (by kernel_rfl) rfl)
theorem F237_ok : FnIn prog (cD prog) 237 F237 := .inl (fnOk_mk (nm := [0, 1]) (by kernel_rfl) (by kernel_rfl) rfl)
theorem F242_ok : FnIn prog (cD prog) 242 F242 := .inl (fnOk_mk (nm := [0, 1, 2, 3]) (by kernel_rfl) (by kernel_rfl) rfl)
theorem F245_ok : FnIn prog (cD prog) 245 F245 := .inl (fnOk_mk (nm := [0, 1, 2, 6, 7]) (by kernel_rfl) (by kernel_rfl) rfl)
theorem F259_ok : FnIn prog (cD prog) 259 F259 := .inl (fnOk_mk (nm := [0, 2]) (by kernel_rfl) (by kernel_rfl) rfl)
theorem F265_ok : FnIn prog (cD prog) 265 F265 := .inl (fnOk_mk (nm := [0, 1, 3]) (by kernel_rfl) (by kernel_rfl) rfl)
theorem F275_ok : FnIn prog (cD prog) 275 F275 := .inl (fnOk_mk (nm := [0, 2]) (by kernel_rfl) (by kernel_rfl) rfl)
theorem F277_ok : FnIn prog (cD prog) 277 F277 := .inl (fnOk_mk (nm := [0, 1, 2, 3, 4, 8, 9, 10]) (by kernel_rfl) (by kernel_rfl) rfl)
theorem F280_ok : FnIn prog (cD prog) 280 F280 := .inl (fnOk_mk (nm := [0, 1, 2, 6, 7]) (by kernel_rfl) (by kernel_rfl) rfl)
theorem F287_ok : FnIn prog (cD prog) 287 F287 := .inl (fnOk_mk (nm := [0, 1, 2, 3, 4]) (by kernel_rfl) (by kernel_rfl) rfl)
theorem F293_ok : FnIn prog (cD prog) 293 F293 := .inl (fnOk_mk (nm := [0, 1, 4]) (by kernel_rfl) (by kernel_rfl) rfl)
theorem F301_ok : FnIn prog (cD prog) 301 F301 := .inl (fnOk_mk (nm := [0, 1, 2, 3, 8, 9, 10, 11]) (by kernel_rfl) (by kernel_rfl) rfl)
theorem F309_ok : FnIn prog (cD prog) 309 F309 := .inl (fnOk_mk (nm := [0, 1, 2, 6, 7, 8, 9, 10]) (by kernel_rfl) (by kernel_rfl) rfl)
theorem F324_ok : FnIn prog (cD prog) 324 F324 := .inl (fnOk_mk (nm := [0, 2]) (by kernel_rfl) (by kernel_rfl) rfl)
theorem F325_ok : FnIn prog (cD prog) 325 F325 := .inl (fnOk_mk (nm := [0, 2]) (by kernel_rfl) (by kernel_rfl) rfl)
end
end Go.X
