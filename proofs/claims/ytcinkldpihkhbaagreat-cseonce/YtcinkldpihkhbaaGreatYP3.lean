/- An executable reading of the model, its soundness over any program, and what it reads of this program. -/
import Derived.Test.YtcinkldpihkhbaaGreatYG3
import Derived.Test.YtcinkldpihkhbaaGreatYXSo
import Derived.Test.YtcinkldpihkhbaaGreatProg
import Derived.KernelRfl
set_option linter.unusedSectionVars false
set_option linter.unusedVariables false
set_option linter.unusedSimpArgs false
set_option linter.constructorNameAsVariable false
namespace Go.X
open Go.Proofs.Tryz
set_option maxRecDepth 100000
noncomputable section
theorem F12_ok : FnOk prog (cD prog) 12 F12 := fnOk_mk (nm := [0, 1, 4]) (by kernel_rfl) (by kernel_rfl)
theorem F13_ok : FnOk prog (cD prog) 13 F13 := fnOk_mk (nm := [0, 1, 4, 5, 6]) (by kernel_rfl) (by kernel_rfl)
theorem F15_ok : FnOk prog (cD prog) 15 F15 := fnOk_mk (nm := [0, 1]) (by kernel_rfl) (by kernel_rfl)
theorem F18_ok : FnOk prog (cD prog) 18 F18 := fnOk_mk (nm := [0, 2]) (by kernel_rfl) (by kernel_rfl)
theorem F29_ok : FnOk prog (cD prog) 29 F29 := fnOk_mk (nm := [0, 1, 2, 3, 4, 5, 8, 9, 10]) (by kernel_rfl) (by kernel_rfl)
theorem F33_ok : FnOk prog (cD prog) 33 F33 := fnOk_mk (nm := [0, 1, 2]) (by kernel_rfl) (by kernel_rfl)
theorem F36_ok : FnOk prog (cD prog) 36 F36 := fnOk_mk (nm := [0, 1, 2, 6]) (by kernel_rfl) (by kernel_rfl)
theorem F56_ok : FnOk prog (cD prog) 56 F56 := fnOk_mk (nm := [0, 2]) (by kernel_rfl) (by kernel_rfl)
theorem F57_ok : FnOk prog (cD prog) 57 F57 := fnOk_mk (nm := [0, 1, 2, 4, 5, 6, 8, 9, 19, 20, 21, 22]) (by kernel_rfl) (by kernel_rfl)
theorem F95_ok : FnOk prog (cD prog) 95 F95 := fnOk_mk (nm := [0, 1, 4, 5]) (by kernel_rfl) (by kernel_rfl)
theorem F97_ok : FnOk prog (cD prog) 97 F97 := fnOk_mk (nm := [0, 1, 2, 3, 8]) (by kernel_rfl) (by kernel_rfl)
theorem F108_ok : FnOk prog (cD prog) 108 F108 := fnOk_mk (nm := [0, 1, 2, 3, 5, 7, 17, 18, 19, 20, 39, 40, 41, 42]) (by kernel_rfl) (by kernel_rfl)
theorem F116_ok : FnOk prog (cD prog) 116 F116 := fnOk_mk (nm := [0, 1, 2, 6]) (by kernel_rfl) (by kernel_rfl)
theorem F119_ok : FnOk prog (cD prog) 119 F119 := fnOk_mk (nm := [0, 1, 2]) (by kernel_rfl) (by kernel_rfl)
theorem F124_ok : FnOk prog (cD prog) 124 F124 := fnOk_mk (nm := [0, 1, 2]) (by kernel_rfl) (by kernel_rfl)
theorem F149_ok : FnOk prog (cD prog) 149 F149 := fnOk_mk (nm := [0, 2, 4, 5, 6, 7, 41, 42, 43, 44, 100, 101, 102, 113, 114, 115, 123, 124, 125]) (by kernel_rfl) (by kernel_rfl)
theorem F150_ok : FnOk prog (cD prog) 150 F150 := fnOk_mk (nm := [0, 2, 3, 4, 5, 7, 8, 9, 10, 11, 13, 28, 29, 30, 31, 36, 48, 49, 50, 51, 76, 77, 78, 79, 108, 109, 110, 111]) (by kernel_rfl) (by kernel_rfl)
theorem F153_ok : FnOk prog (cD prog) 153 F153 := fnOk_mk (nm := [0, 1, 2, 4, 5, 6, 8, 9, 10, 11, 13, 14, 15, 16, 17, 18, 30, 31, 32, 53, 54, 55, 56, 123, 124, 125, 126, 150, 151, 152, 153, 162, 163, 164, 165]) (by kernel_rfl) (by kernel_rfl)
theorem F155_ok : FnOk prog (cD prog) 155 F155 := fnOk_mk (nm := [0, 1, 4, 5, 7, 8, 9]) (by kernel_rfl) (by kernel_rfl)
theorem F158_ok : FnOk prog (cD prog) 158 F158 := fnOk_mk (nm := [0, 2, 3, 4, 5, 6, 61]) (by kernel_rfl) (by kernel_rfl)
theorem F162_ok : FnOk prog (cD prog) 162 F162 := fnOk_mk (nm := [0, 1, 4, 5, 12, 13, 14]) (by kernel_rfl) (by kernel_rfl)
theorem F165_ok : FnOk prog (cD prog) 165 F165 := fnOk_mk (nm := [0, 1, 4, 5]) (by kernel_rfl) (by kernel_rfl)
theorem F167_ok : FnOk prog (cD prog) 167 F167 := fnOk_mk (nm := [0, 1, 3]) (by kernel_rfl) (by kernel_rfl)
theorem F199_ok : FnOk prog (cD prog) 199 F199 := fnOk_mk (nm := [0, 1, 3, 4]) (by kernel_rfl) (by kernel_rfl)
theorem F202_ok : FnOk prog (cD prog) 202 F202 := fnOk_mk (nm := [0, 1, 4, 5, 6, 7, 8, 9, 10, 11, 63, 64, 97, 98, 99, 100]) (by kernel_rfl) (by kernel_rfl)
theorem F203_ok : FnOk prog (cD prog) 203 F203 := fnOk_mk (nm := [0, 1, 4]) (by kernel_rfl) (by kernel_rfl)
theorem F208_ok : FnOk prog (cD prog) 208 F208 := fnOk_mk (nm := [0, 1, 2, 6]) (by kernel_rfl) (by kernel_rfl)
theorem F211_ok : FnOk prog (cD prog) 211 F211 := fnOk_mk (nm := [0, 1, 3]) (by kernel_rfl) (by kernel_rfl)
theorem F215_ok : FnOk prog (cD prog) 215 F215 := fnOk_mk (nm := [0, 1, 2, 4, 6, 7, 32]) (by kernel_rfl) (by kernel_rfl)
theorem F217_ok : FnOk prog (cD prog) 217 F217 := fnOk_mk (nm := [0, 1, 2]) (by kernel_rfl) (by kernel_rfl)
theorem F219_ok : FnOk prog (cD prog) 219 F219 := fnOk_mk (nm := [0, 1, 4, 5, 6]) (by kernel_rfl) (by kernel_rfl)
theorem F223_ok : FnOk prog (cD prog) 223 F223 := fnOk_mk (nm := [0, 1, 2, 3, 8, 9, 10]) (by kernel_rfl) (by kernel_rfl)
theorem F227_ok : FnOk prog (cD prog) 227 F227 := fnOk_mk (nm := [0, 1, 3, 4, 5, 6]) (by kernel_rfl) (by kernel_rfl)
theorem F256_ok : FnOk prog (cD prog) 256 F256 := fnOk_mk (nm := [0, 1, 2, 4, 6, 7, 12, 13, 20, 27, 34]) (by kernel_rfl) (by kernel_rfl)
theorem F258_ok : FnOk prog (cD prog) 258 F258 := fnOk_mk (nm := [0, 1, 2, 3, 8, 9, 10, 11, 12, 13, 14, 15, 16, 17, 18]) (by kernel_rfl) (by kernel_rfl)
theorem F265_ok : FnOk prog (cD prog) 265 F265 := fnOk_mk (nm := [0, 1, 3]) (by kernel_rfl) (by kernel_rfl)
theorem F266_ok : FnOk prog (cD prog) 266 F266 := fnOk_mk (nm := [0, 2]) (by kernel_rfl) (by kernel_rfl)
theorem F269_ok : FnOk prog (cD prog) 269 F269 := fnOk_mk (nm := [0, 2, 3, 4, 9, 14, 19]) (by kernel_rfl) (by kernel_rfl)
theorem F270_ok : FnOk prog (cD prog) 270 F270 := fnOk_mk (nm := [0, 2, 3, 4]) (by kernel_rfl) (by kernel_rfl)
theorem F271_ok : FnOk prog (cD prog) 271 F271 := fnOk_mk (nm := [0, 1, 2, 4, 5]) (by kernel_rfl) (by kernel_rfl)
theorem F294_ok : FnOk prog (cD prog) 294 F294 := fnOk_mk (nm := [0, 2]) (by kernel_rfl) (by kernel_rfl)
theorem F299_ok : FnOk prog (cD prog) 299 F299 := fnOk_mk (nm := [0, 2]) (by kernel_rfl) (by kernel_rfl)
theorem F300_ok : FnOk prog (cD prog) 300 F300 := fnOk_mk (nm := [0, 1, 2, 4, 5]) (by kernel_rfl) (by kernel_rfl)
theorem F302_ok : FnOk prog (cD prog) 302 F302 := fnOk_mk (nm := [0, 2]) (by kernel_rfl) (by kernel_rfl)
theorem F306_ok : FnOk prog (cD prog) 306 F306 := fnOk_mk (nm := [0, 1, 2, 6, 7, 8, 9, 10]) (by kernel_rfl) (by kernel_rfl)
theorem F308_ok : FnOk prog (cD prog) 308 F308 := fnOk_mk (nm := [0, 1, 2, 6, 7]) (by kernel_rfl) (by kernel_rfl)
theorem F313_ok : FnOk prog (cD prog) 313 F313 := fnOk_mk (nm := [0, 2]) (by kernel_rfl) (by kernel_rfl)
theorem F323_ok : FnOk prog (cD prog) 323 F323 := fnOk_mk (nm := [0, 1, 2, 3, 8, 9]) (by kernel_rfl) (by kernel_rfl)
end
end Go.X
