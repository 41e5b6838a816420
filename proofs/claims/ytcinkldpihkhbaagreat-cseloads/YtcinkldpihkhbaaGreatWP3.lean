/- An executable reading of the model, its soundness over any program, and what it reads of this program. -/
import Derived.Test.YtcinkldpihkhbaaGreatWG3
import Derived.Test.YtcinkldpihkhbaaGreatWXSo
import Derived.Test.YtcinkldpihkhbaaGreatProg
import Derived.KernelRfl
set_option linter.unusedSectionVars false
set_option linter.unusedVariables false
set_option linter.unusedSimpArgs false
set_option linter.constructorNameAsVariable false
namespace Go.X
open Go.Proofs.Tryz
set_option maxRecDepth 100000
noncomputable section
theorem F12_ok : FnIn prog (cD prog) 12 F12 := .inl (fnOk_mk (nm := [0, 1, 4]) (by kernel_rfl) (by kernel_rfl) rfl)
theorem F13_ok : FnIn prog (cD prog) 13 F13 := .inl (fnOk_mk (nm := [0, 1, 4, 5, 6]) (by kernel_rfl) (by kernel_rfl) rfl)
theorem F14_ok : FnIn prog (cD prog) 14 F14 := .inl (fnOk_mk (nm := [0, 1, 2, 3, 8, 9]) (by kernel_rfl) (by kernel_rfl) rfl)
theorem F15_ok : FnIn prog (cD prog) 15 F15 := .inl (fnOk_mk (nm := [0, 1]) (by kernel_rfl) (by kernel_rfl) rfl)
theorem F18_ok : FnIn prog (cD prog) 18 F18 := .inl (fnOk_mk (nm := [0, 2]) (by kernel_rfl) (by kernel_rfl) rfl)
theorem F23_ok : FnIn prog (cD prog) 23 F23 := .inl (fnOk_mk (nm := [0, 1, 2]) (by kernel_rfl) (by kernel_rfl) rfl)
theorem F29_ok : FnIn prog (cD prog) 29 F29 := .inl (fnOk_mk (nm := [0, 1, 2, 3, 4, 5, 8, 9, 10]) (by kernel_rfl) (by kernel_rfl) rfl)
theorem F33_ok : FnIn prog (cD prog) 33 F33 := .inl (fnOk_mk (nm := [0, 1, 2]) (by kernel_rfl) (by kernel_rfl) rfl)
theorem F36_ok : FnIn prog (cD prog) 36 F36 := .inl (fnOk_mk (nm := [0, 1, 2, 6]) (by kernel_rfl) (by kernel_rfl) rfl)
theorem F56_ok : FnIn prog (cD prog) 56 F56 := .inl (fnOk_mk (nm := [0, 2]) (by kernel_rfl) (by kernel_rfl) rfl)
theorem F57_ok : FnIn prog (cD prog) 57 F57 := .inl (fnOk_mk (nm := [0, 1, 2, 4, 5, 6, 8, 9, 19, 20, 21, 22]) (by kernel_rfl) (by kernel_rfl) rfl)
theorem F97_ok : FnIn prog (cD prog) 97 F97 := .inl (fnOk_mk (nm := [0, 1, 2, 3, 8]) (by kernel_rfl) (by kernel_rfl) rfl)
theorem F108_ok : FnIn prog (cD prog) 108 F108 := .inl (fnOk_mk (nm := [0, 1, 2, 3, 5, 7, 17, 18, 19, 20, 39, 40, 41, 42]) (by kernel_rfl) (by kernel_rfl) rfl)
theorem F116_ok : FnIn prog (cD prog) 116 F116 := .inl (fnOk_mk (nm := [0, 1, 2, 6]) (by kernel_rfl) (by kernel_rfl) rfl)
theorem F119_ok : FnIn prog (cD prog) 119 F119 := .inl (fnOk_mk (nm := [0, 1, 2]) (by kernel_rfl) (by kernel_rfl) rfl)
theorem F124_ok : FnIn prog (cD prog) 124 F124 := .inl (fnOk_mk (nm := [0, 1, 2]) (by kernel_rfl) (by kernel_rfl) rfl)
theorem F149_ok : FnIn prog (cD prog) 149 F149 := .inl (fnOk_mk (nm := [0, 2, 4, 5, 6, 7, 41, 42, 43, 44, 100, 101, 102, 113, 114, 115, 123, 124, 125]) (by kernel_rfl) (by kernel_rfl) rfl)
theorem F150_ok : FnIn prog (cD prog) 150 F150 := .inl (fnOk_mk (nm := [0, 2, 3, 4, 5, 7, 8, 9, 10, 11, 13, 28, 29, 30, 31, 36, 48, 49, 50, 51, 76, 77, 78, 79, 108, 109, 110, 111]) (by kernel_rfl) (by kernel_rfl) rfl)
theorem F153_ok : FnIn prog (cD prog) 153 F153 := .inl (fnOk_mk (nm := [0, 1, 2, 4, 5, 6, 8, 9, 10, 11, 13, 14, 15, 16, 17, 18, 30, 31, 32, 53, 54, 55, 56, 123, 124, 125, 126, 150, 151, 152, 153, 162, 163, 164, 165]) (by kernel_rfl) (by kernel_rfl) rfl)
theorem F158_ok : FnIn prog (cD prog) 158 F158 := .inl (fnOk_mk (nm := [0, 2, 3, 4, 5, 6, 61]) (by kernel_rfl) (by kernel_rfl) rfl)
theorem F165_ok : FnIn prog (cD prog) 165 F165 := .inl (fnOk_mk (nm := [0, 1, 4, 5]) (by kernel_rfl) (by kernel_rfl) rfl)
theorem F167_ok : FnIn prog (cD prog) 167 F167 := .inl (fnOk_mk (nm := [0, 1, 3]) (by kernel_rfl) (by kernel_rfl) rfl)
theorem F199_ok : FnIn prog (cD prog) 199 F199 := .inl (fnOk_mk (nm := [0, 1, 3, 4]) (by kernel_rfl) (by kernel_rfl) rfl)
theorem F202_ok : FnIn prog (cD prog) 202 F202 := .inl (fnOk_mk (nm := [0, 1, 4, 5, 6, 7, 8, 9, 10, 11, 63, 64, 97, 98, 99, 100]) (by kernel_rfl) (by kernel_rfl) rfl)
theorem F204_ok : FnIn prog (cD prog) 204 F204 := .inl (fnOk_mk (nm := [0, 1, 4]) (by kernel_rfl) (by kernel_rfl) rfl)
theorem F208_ok : FnIn prog (cD prog) 208 F208 := .inl (fnOk_mk (nm := [0, 1, 2, 6]) (by kernel_rfl) (by kernel_rfl) rfl)
theorem F215_ok : FnIn prog (cD prog) 215 F215 := .inl (fnOk_mk (nm := [0, 1, 2, 4, 6, 7, 32]) (by kernel_rfl) (by kernel_rfl) rfl)
theorem F217_ok : FnIn prog (cD prog) 217 F217 := .inl (fnOk_mk (nm := [0, 1, 2]) (by kernel_rfl) (by kernel_rfl) rfl)
theorem F223_ok : FnIn prog (cD prog) 223 F223 := .inl (fnOk_mk (nm := [0, 1, 2, 3, 8, 9, 10]) (by kernel_rfl) (by kernel_rfl) rfl)
theorem F227_ok : FnIn prog (cD prog) 227 F227 := .inl (fnOk_mk (nm := [0, 1, 3, 4, 5, 6]) (by kernel_rfl) (by kernel_rfl) rfl)
theorem F232_ok : FnIn prog (cD prog) 232 F232 := .inl (fnOk_mk (nm := [0, 1, 4, 5]) (by kernel_rfl) (by kernel_rfl) rfl)
theorem F256_ok : FnIn prog (cD prog) 256 F256 := .inl (fnOk_mk (nm := [0, 1, 2, 4, 6, 7, 12, 13, 20, 27, 34]) (by kernel_rfl) (by kernel_rfl) rfl)
theorem F258_ok : FnIn prog (cD prog) 258 F258 := .inl (fnOk_mk (nm := [0, 1, 2, 3, 8, 9, 10, 11, 12, 13, 14, 15, 16, 17, 18]) (by kernel_rfl) (by kernel_rfl) rfl)
theorem F265_ok : FnIn prog (cD prog) 265 F265 := .inl (fnOk_mk (nm := [0, 1, 3]) (by kernel_rfl) (by kernel_rfl) rfl)
theorem F266_ok : FnIn prog (cD prog) 266 F266 := .inl (fnOk_mk (nm := [0, 2]) (by kernel_rfl) (by kernel_rfl) rfl)
theorem F269_ok : FnIn prog (cD prog) 269 F269 := .inl (fnOk_mk (nm := [0, 2, 3, 4, 9, 14, 19]) (by kernel_rfl) (by kernel_rfl) rfl)
theorem F270_ok : FnIn prog (cD prog) 270 F270 := .inl (fnOk_mk (nm := [0, 2, 3, 4]) (by kernel_rfl) (by kernel_rfl) rfl)
theorem F271_ok : FnIn prog (cD prog) 271 F271 := .inl (fnOk_mk (nm := [0, 1, 2, 4, 5]) (by kernel_rfl) (by kernel_rfl) rfl)
theorem F279_ok : FnIn prog (cD prog) 279 F279 := .inl (fnOk_mk (nm := [0, 2]) (by kernel_rfl) (by kernel_rfl) rfl)
theorem F294_ok : FnIn prog (cD prog) 294 F294 := .inl (fnOk_mk (nm := [0, 2]) (by kernel_rfl) (by kernel_rfl) rfl)
theorem F299_ok : FnIn prog (cD prog) 299 F299 := .inl (fnOk_mk (nm := [0, 2]) (by kernel_rfl) (by kernel_rfl) rfl)
theorem F300_ok : FnIn prog (cD prog) 300 F300 := .inl (fnOk_mk (nm := [0, 1, 2, 4, 5]) (by kernel_rfl) (by kernel_rfl) rfl)
theorem F302_ok : FnIn prog (cD prog) 302 F302 := .inl (fnOk_mk (nm := [0, 2]) (by kernel_rfl) (by kernel_rfl) rfl)
theorem F306_ok : FnIn prog (cD prog) 306 F306 := .inl (fnOk_mk (nm := [0, 1, 2, 6, 7, 8, 9, 10]) (by kernel_rfl) (by kernel_rfl) rfl)
theorem F313_ok : FnIn prog (cD prog) 313 F313 := .inl (fnOk_mk (nm := [0, 2]) (by kernel_rfl) (by kernel_rfl) rfl)
theorem F323_ok : FnIn prog (cD prog) 323 F323 := .inl (fnOk_mk (nm := [0, 1, 2, 3, 8, 9]) (by kernel_rfl) (by kernel_rfl) rfl)
theorem F327_ok : FnIn prog (cD prog) 327 F327 := .inl (fnOk_mk (nm := [0, 1, 2, 3, 4, 10]) (by kernel_rfl) (by kernel_rfl) rfl)
theorem F329_ok : FnIn prog (cD prog) 329 F329 := .inl (fnOk_mk (nm := [0, 1, 2, 3, 8, 9]) (by kernel_rfl) (by kernel_rfl) rfl)
end
end Go.X
