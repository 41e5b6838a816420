/- An executable reading of the model, its soundness over any program, and what it reads of this program. -/
import Derived.Test.YtcinkldpihkhbaaGreatVG0
import Derived.Test.YtcinkldpihkhbaaGreatVXSo
import Derived.Test.YtcinkldpihkhbaaGreatProg
import Derived.KernelRfl
set_option linter.unusedSectionVars false
set_option linter.unusedVariables false
set_option linter.unusedSimpArgs false
set_option linter.constructorNameAsVariable false
namespace Go.X
open Go.Proofs.Tryz
set_option maxRecDepth 100000
noncomputable section
theorem F14_ok : FnIn prog (cD prog) 14 F14 := .inl (fnOk_mk (nm := [0, 1, 2, 3, 8, 9]) (by kernel_rfl) (by kernel_rfl) rfl)
theorem F29_ok : FnIn prog (cD prog) 29 F29 := .inl (fnOk_mk (nm := [0, 1, 2, 3, 4, 5, 8, 9, 10]) (by kernel_rfl) (by kernel_rfl) rfl)
theorem F45_ok : FnIn prog (cD prog) 45 F45 := .inl (fnOk_mk (nm := [0, 1, 2, 3]) (by kernel_rfl) (by kernel_rfl) rfl)
theorem F47_ok : FnIn prog (cD prog) 47 F47 := .inl (fnOk_mk (nm := [0, 1, 4, 5]) (by kernel_rfl) (by kernel_rfl) rfl)
theorem F49_ok : FnIn prog (cD prog) 49 F49 := .inl (fnOk_mk (nm := [0, 1, 2, 3]) (by kernel_rfl) (by kernel_rfl) rfl)
theorem F50_ok : FnIn prog (cD prog) 50 F50 := .inl (fnOk_mk (nm := [0, 1, 2]) (by kernel_rfl) (by kernel_rfl) rfl)
theorem F56_ok : FnIn prog (cD prog) 56 F56 := .inl (fnOk_mk (nm := [0, 2]) (by kernel_rfl) (by kernel_rfl) rfl)
theorem F57_ok : FnIn prog (cD prog) 57 F57 := .inl (fnOk_mk (nm := [0, 1, 2, 4, 5, 6, 8, 9, 19, 20, 21, 22]) (by kernel_rfl) (by kernel_rfl) rfl)
theorem F86_ok : FnIn prog (cD prog) 86 F86 := .inl (fnOk_mk (nm := [0, 1, 4, 5, 6]) (by kernel_rfl) (by kernel_rfl) rfl)
theorem F91_ok : FnIn prog (cD prog) 91 F91 := .inl (fnOk_mk (nm := [0, 1, 4]) (by kernel_rfl) (by kernel_rfl) rfl)
theorem F109_ok : FnIn prog (cD prog) 109 F109 := .inl (fnOk_mk (nm := [0, 1, 4, 5, 6, 7]) (by kernel_rfl) (by kernel_rfl) rfl)
theorem F115_ok : FnIn prog (cD prog) 115 F115 := .inl (fnOk_mk (nm := [0, 2]) (by kernel_rfl) (by kernel_rfl) rfl)
theorem F118_ok : FnIn prog (cD prog) 118 F118 := .inl (fnOk_mk (nm := [0, 2]) (by kernel_rfl) (by kernel_rfl) rfl)
theorem F120_ok : FnIn prog (cD prog) 120 F120 := .inl (fnOk_mk (nm := [0, 1, 4]) (by kernel_rfl) (by kernel_rfl) rfl)
theorem F121_ok : FnIn prog (cD prog) 121 F121 := .inl (fnOk_mk (nm := [0, 1, 2, 3, 4]) (by kernel_rfl) (by kernel_rfl) rfl)
theorem F124_ok : FnIn prog (cD prog) 124 F124 := .inl (fnOk_mk (nm := [0, 1, 2]) (by kernel_rfl) (by kernel_rfl) rfl)
theorem F134_ok : FnIn prog (cD prog) 134 F134 := .inl (fnOk_mk (nm := [0, 1, 2, 3, 4, 5, 6, 7, 8, 9, 10, 11, 12, 14, 15, 35, 36, 37, 38, 58, 59, 60, 63, 64, 65, 122, 123, 124]) (by kernel_rfl) (by kernel_rfl) rfl)
theorem F154_ok : FnIn prog (cD prog) 154 F154 := .inl (fnOk_mk (nm := [0, 2]) (by kernel_rfl) (by kernel_rfl) rfl)
theorem F155_ok : FnIn prog (cD prog) 155 F155 := .inl (fnOk_mk (nm := [0, 1, 4, 5, 7, 8, 9]) (by kernel_rfl) (by kernel_rfl) rfl)
theorem F157_ok : FnIn prog (cD prog) 157 F157 := .inl (fnOk_mk (nm := [0, 1, 2, 3, 4, 5, 6, 7, 8]) (by kernel_rfl) (by kernel_rfl) rfl)
theorem F159_ok : FnIn prog (cD prog) 159 F159 := .inl (fnOk_mk (nm := [0, 1, 2, 3, 4, 5, 6, 7, 8, 9, 10, 11]) (by kernel_rfl) (by kernel_rfl) rfl)
theorem F163_ok : FnIn prog (cD prog) 163 F163 := .inl (fnOk_mk (nm := [0, 2, 3]) (by kernel_rfl) (by kernel_rfl) rfl)
theorem F164_ok : FnIn prog (cD prog) 164 F164 := .inl (fnOk_mk (nm := [0, 1, 4, 5, 6, 7, 8, 9, 10, 11, 58]) (by kernel_rfl) (by kernel_rfl) rfl)
theorem F165_ok : FnIn prog (cD prog) 165 F165 := .inl (fnOk_mk (nm := [0, 1, 4, 5]) (by kernel_rfl) (by kernel_rfl) rfl)
theorem F173_ok : FnIn prog (cD prog) 173 F173 := .inl (fnOk_mk (nm := [0, 1, 2, 3]) (by kernel_rfl) (by kernel_rfl) rfl)
theorem F177_ok : FnIn prog (cD prog) 177 F177 := .inl (fnOk_mk (nm := [0, 1, 2, 6]) (by kernel_rfl) (by kernel_rfl) rfl)
theorem F178_ok : FnIn prog (cD prog) 178 F178 := .inl (fnOk_mk (nm := [0, 1, 2, 3, 4, 8, 10, 11, 13, 14, 31, 32, 33, 34, 65, 66, 67, 68]) (by kernel_rfl) (by kernel_rfl) rfl)
theorem F185_ok : FnIn prog (cD prog) 185 F185 := .inl (fnOk_mk (nm := [0, 2, 3, 4]) (by kernel_rfl) (by kernel_rfl) rfl)
theorem F204_ok : FnIn prog (cD prog) 204 F204 := .inl (fnOk_mk (nm := [0, 1, 4]) (by kernel_rfl) (by kernel_rfl) rfl)
theorem F210_ok : FnIn prog (cD prog) 210 F210 := .inl (fnOk_mk (nm := [0, 2, 3, 4, 7]) (by kernel_rfl) (by kernel_rfl) rfl)
theorem F218_ok : FnIn prog (cD prog) 218 F218 := .inl (fnOk_mk (nm := [0, 2, 3, 8]) (by kernel_rfl) (by kernel_rfl) rfl)
theorem F221_ok : FnIn prog (cD prog) 221 F221 := .inl (fnOk_mk (nm := [0, 1, 4, 5, 6, 7, 8, 9, 22]) (by kernel_rfl) (by kernel_rfl) rfl)
theorem F223_ok : FnIn prog (cD prog) 223 F223 := .inl (fnOk_mk (nm := [0, 1, 2, 3, 8, 9, 10]) (by kernel_rfl) (by kernel_rfl) rfl)
theorem F251_ok : FnIn prog (cD prog) 251 F251 := .inl (fnOk_mk (nm := [0, 1, 2, 3, 8, 9, 10]) (by kernel_rfl) (by kernel_rfl) rfl)
theorem F255_ok : FnIn prog (cD prog) 255 F255 := .inl (fnOk_mk (nm := [0, 1, 3]) (by kernel_rfl) (by kernel_rfl) rfl)
theorem F266_ok : FnIn prog (cD prog) 266 F266 := .inl (fnOk_mk (nm := [0, 2]) (by kernel_rfl) (by kernel_rfl) rfl)
theorem F268_ok : FnIn prog (cD prog) 268 F268 := .inl (fnOk_mk (nm := [0, 1, 2, 4, 5]) (by kernel_rfl) (by kernel_rfl) rfl)
theorem F270_ok : FnIn prog (cD prog) 270 F270 := .inl (fnOk_mk (nm := [0, 2, 3, 4]) (by kernel_rfl) (by kernel_rfl) rfl)
theorem F273_ok : FnIn prog (cD prog) 273 F273 := .inl (fnOk_mk (nm := [0, 1, 3, 4, 5, 6, 7, 8]) (by kernel_rfl) (by kernel_rfl) rfl)
theorem F294_ok : FnIn prog (cD prog) 294 F294 := .inl (fnOk_mk (nm := [0, 2]) (by kernel_rfl) (by kernel_rfl) rfl)
theorem F296_ok : FnIn prog (cD prog) 296 F296 := .inl (fnOk_mk (nm := [0, 2]) (by kernel_rfl) (by kernel_rfl) rfl)
theorem F297_ok : FnIn prog (cD prog) 297 F297 := .inl (fnOk_mk (nm := [0, 1, 4, 15, 16, 29, 35]) (by kernel_rfl) (by kernel_rfl) rfl)
theorem F304_ok : FnIn prog (cD prog) 304 F304 := .inl (fnOk_mk (nm := [0, 1, 2, 6, 7]) (by kernel_rfl) (by kernel_rfl) rfl)
theorem F305_ok : FnIn prog (cD prog) 305 F305 := .inl (fnOk_mk (nm := [0, 1, 2, 6, 7, 8, 9, 10]) (by kernel_rfl) (by kernel_rfl) rfl)
theorem F308_ok : FnIn prog (cD prog) 308 F308 := .inl (fnOk_mk (nm := [0, 1, 2, 6, 7]) (by kernel_rfl) (by kernel_rfl) rfl)
theorem F310_ok : FnIn prog (cD prog) 310 F310 := .inl (fnOk_mk (nm := [0, 1, 2, 3, 8, 9, 10]) (by kernel_rfl) (by kernel_rfl) rfl)
theorem F320_ok : FnIn prog (cD prog) 320 F320 := .inl (fnOk_mk (nm := [0, 2]) (by kernel_rfl) (by kernel_rfl) rfl)
theorem F322_ok : FnIn prog (cD prog) 322 F322 := .inl (fnOk_mk (nm := [0, 2]) (by kernel_rfl) (by kernel_rfl) rfl)
theorem F323_ok : FnIn prog (cD prog) 323 F323 := .inl (fnOk_mk (nm := [0, 1, 2, 3, 8, 9]) (by kernel_rfl) (by kernel_rfl) rfl)
theorem F326_ok : FnIn prog (cD prog) 326 F326 := .inl (fnOk_mk (nm := [0, 1, 2, 6]) (by kernel_rfl) (by kernel_rfl) rfl)
theorem F327_ok : FnIn prog (cD prog) 327 F327 := .inl (fnOk_mk (nm := [0, 1, 2, 3, 4, 10]) (by kernel_rfl) (by kernel_rfl) rfl)
theorem F329_ok : FnIn prog (cD prog) 329 F329 := .inl (fnOk_mk (nm := [0, 1, 2, 3, 8, 9]) (by kernel_rfl) (by kernel_rfl) rfl)
end
end Go.X
