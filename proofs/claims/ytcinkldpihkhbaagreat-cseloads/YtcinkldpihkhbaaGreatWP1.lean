/- An executable reading of the model, its soundness over any program, and what it reads of this program. -/
import Derived.Test.YtcinkldpihkhbaaGreatWG1
import Derived.Test.YtcinkldpihkhbaaGreatWXSo
import Derived.Test.YtcinkldpihkhbaaGreatProg
import Derived.KernelRfl
set_option linter.unusedSectionVars false
set_option linter.unusedVariables false
set_option linter.unusedSimpArgs false
set_option linter.constructorNameAsVariable false
namespace Go.X
open Go.Proofs.Tryz
set_option maxRecDepth 100000
noncomputable section
theorem F20_ok : FnIn prog (cD prog) 20 F20 := .inl (fnOk_mk (nm := [0, 1, 2, 4]) (by kernel_rfl) (by kernel_rfl) rfl)
theorem F34_ok : FnIn prog (cD prog) 34 F34 := .inl (fnOk_mk (nm := [0, 1, 4]) (by kernel_rfl) (by kernel_rfl) rfl)
theorem F35_ok : FnIn prog (cD prog) 35 F35 := .inl (fnOk_mk (nm := [0, 1, 2, 3]) (by kernel_rfl) (by kernel_rfl) rfl)
theorem F51_ok : FnIn prog (cD prog) 51 F51 := .inl (fnOk_mk (nm := [0, 1, 2, 3, 8, 9, 10, 11, 39, 61, 92]) (by kernel_rfl) (by kernel_rfl) rfl)
theorem F73_ok : FnIn prog (cD prog) 73 F73 := .inl (fnOk_mk (nm := [0, 1, 2]) (by kernel_rfl) (by kernel_rfl) rfl)
theorem F99_ok : FnIn prog (cD prog) 99 F99 := .inl (fnOk_mk (nm := [0, 1, 2, 6]) (by kernel_rfl) (by kernel_rfl) rfl)
theorem F105_ok : FnIn prog (cD prog) 105 F105 := .inl (fnOk_mk (nm := [0, 2, 3, 6, 9, 12, 15, 18]) (by kernel_rfl) (by kernel_rfl) rfl)
theorem F106_ok : FnIn prog (cD prog) 106 F106 := .inl (fnOk_mk (nm := [0, 1, 2, 4, 5, 24, 25, 26, 27]) (by kernel_rfl) (by kernel_rfl) rfl)
theorem F107_ok : FnIn prog (cD prog) 107 F107 := .inl (fnOk_mk (nm := [0, 2]) (by kernel_rfl) (by kernel_rfl) rfl)
theorem F115_ok : FnIn prog (cD prog) 115 F115 := .inl (fnOk_mk (nm := [0, 2]) (by kernel_rfl) (by kernel_rfl) rfl)
theorem F121_ok : FnIn prog (cD prog) 121 F121 := .inl (fnOk_mk (nm := [0, 1, 2, 3, 4]) (by kernel_rfl) (by kernel_rfl) rfl)
theorem F122_ok : FnIn prog (cD prog) 122 F122 := .inl (fnOk_mk (nm := [0, 1, 2, 3, 4, 5, 6, 7]) (by kernel_rfl) (by kernel_rfl) rfl)
theorem F126_ok : FnIn prog (cD prog) 126 F126 := .inl (fnOk_mk (nm := [0, 1, 3]) (by kernel_rfl) (by kernel_rfl) rfl)
theorem F140_ok : FnIn prog (cD prog) 140 F140 := .inl (fnOk_mk (nm := [0, 2]) (by kernel_rfl) (by kernel_rfl) rfl)
theorem F143_ok : FnIn prog (cD prog) 143 F143 := .inl (fnOk_mk (nm := [0, 2]) (by kernel_rfl) (by kernel_rfl) rfl)
theorem F147_ok : FnIn prog (cD prog) 147 F147 := .inl (fnOk_mk (nm := [0, 2, 3, 4]) (by kernel_rfl) (by kernel_rfl) rfl)
theorem F157_ok : FnIn prog (cD prog) 157 F157 := .inl (fnOk_mk (nm := [0, 1, 2, 3, 4, 5, 6, 7, 8]) (by kernel_rfl) (by kernel_rfl) rfl)
theorem F159_ok : FnIn prog (cD prog) 159 F159 := .inl (fnOk_mk (nm := [0, 1, 2, 3, 4, 5, 6, 7, 8, 9, 10, 11]) (by kernel_rfl) (by kernel_rfl) rfl)
theorem F163_ok : FnIn prog (cD prog) 163 F163 := .inl (fnOk_mk (nm := [0, 2, 3]) (by kernel_rfl) (by kernel_rfl) rfl)
theorem F164_ok : FnIn prog (cD prog) 164 F164 := .inl (fnOk_mk (nm := [0, 1, 4, 5, 6, 7, 8, 9, 10, 11, 58]) (by kernel_rfl) (by kernel_rfl) rfl)
theorem F166_ok : FnIn prog (cD prog) 166 F166 := .inl (fnOk_mk (nm := [0, 1, 2, 3, 4]) (by kernel_rfl) (by kernel_rfl) rfl)
theorem F174_ok : FnIn prog (cD prog) 174 F174 := .inl (fnOk_mk (nm := [0, 1, 4, 5, 7, 8, 9, 10, 11, 15, 16, 17, 18]) (by kernel_rfl) (by kernel_rfl) rfl)
theorem F200_ok : FnIn prog (cD prog) 200 F200 := .inl (fnOk_mk (nm := [0, 2]) (by kernel_rfl) (by kernel_rfl) rfl)
theorem F206_ok : FnIn prog (cD prog) 206 F206 := .inl (fnOk_mk (nm := [0, 1, 2, 4, 6, 7, 8, 9, 11, 13, 14, 15, 23]) (by kernel_rfl) (by kernel_rfl) rfl)
theorem F207_ok : FnIn prog (cD prog) 207 F207 := .inl (fnOk_mk (nm := [0, 1, 4, 6, 7, 8, 9, 10]) (by kernel_rfl) (by kernel_rfl) rfl)
theorem F210_ok : FnIn prog (cD prog) 210 F210 := .inl (fnOk_mk (nm := [0, 2, 3, 4, 7]) (by kernel_rfl) (by kernel_rfl) rfl)
theorem F216_ok : FnIn prog (cD prog) 216 F216 := .inl (fnOk_mk (nm := [0, 1, 2, 3, 4]) (by kernel_rfl) (by kernel_rfl) rfl)
theorem F218_ok : FnIn prog (cD prog) 218 F218 := .inl (fnOk_mk (nm := [0, 2, 3, 8]) (by kernel_rfl) (by kernel_rfl) rfl)
theorem F220_ok : FnIn prog (cD prog) 220 F220 := .inl (fnOk_mk (nm := [0, 1, 2, 4, 5, 6, 7, 8, 9]) (by kernel_rfl) (by kernel_rfl) rfl)
theorem F225_ok : FnIn prog (cD prog) 225 F225 := .inl (fnOk_mk (nm := [0, 1, 2]) (by kernel_rfl) (by kernel_rfl) rfl)
theorem F226_ok : FnIn prog (cD prog) 226 F226 := .inl (fnOk_mk (nm := [0, 1, 2, 4, 6, 7, 8, 9, 10, 11, 12, 13]) (by kernel_rfl) (by kernel_rfl) rfl)
theorem F228_ok : FnIn prog (cD prog) 228 F228 := .inl (fnOk_mk (nm := [0, 2]) (by kernel_rfl) (by kernel_rfl) rfl)
theorem F257_ok : FnIn prog (cD prog) 257 F257 := .inl (fnOk_mk (nm := [0, 2, 3, 4, 5]) (by kernel_rfl) (by kernel_rfl) rfl)
theorem F267_ok : FnIn prog (cD prog) 267 F267 := .inl (fnOk_mk (nm := [0, 1, 3, 4, 6, 7]) (by kernel_rfl) (by kernel_rfl) rfl)
theorem F276_ok : FnIn prog (cD prog) 276 F276 := .inl (fnOk_mk (nm := [0, 1, 2, 6]) (by kernel_rfl) (by kernel_rfl) rfl)
theorem F277_ok : FnIn prog (cD prog) 277 F277 := .inl (fnOk_mk (nm := [0, 1, 2, 3, 4, 8, 9, 10]) (by kernel_rfl) (by kernel_rfl) rfl)
theorem F280_ok : FnIn prog (cD prog) 280 F280 := .inl (fnOk_mk (nm := [0, 1, 2, 6, 7]) (by kernel_rfl) (by kernel_rfl) rfl)
theorem F284_ok : FnIn prog (cD prog) 284 F284 := .inl (fnOk_mk (nm := [0, 1, 2, 6]) (by kernel_rfl) (by kernel_rfl) rfl)
theorem F285_ok : FnIn prog (cD prog) 285 F285 := .inl (fnOk_mk (nm := [0, 1, 2, 3, 8, 9, 10]) (by kernel_rfl) (by kernel_rfl) rfl)
theorem F297_ok : FnIn prog (cD prog) 297 F297 := .inl (fnOk_mk (nm := [0, 1, 4, 15, 16, 29, 35]) (by kernel_rfl) (by kernel_rfl) rfl)
theorem F304_ok : FnIn prog (cD prog) 304 F304 := .inl (fnOk_mk (nm := [0, 1, 2, 6, 7]) (by kernel_rfl) (by kernel_rfl) rfl)
theorem F312_ok : FnIn prog (cD prog) 312 F312 := .inl (fnOk_mk (nm := [0, 2]) (by kernel_rfl) (by kernel_rfl) rfl)
theorem F314_ok : FnIn prog (cD prog) 314 F314 := .inl (fnOk_mk (nm := [0, 2]) (by kernel_rfl) (by kernel_rfl) rfl)
theorem F315_ok : FnIn prog (cD prog) 315 F315 := .inl (fnOk_mk (nm := [0, 1, 2, 6]) (by kernel_rfl) (by kernel_rfl) rfl)
theorem F320_ok : FnIn prog (cD prog) 320 F320 := .inl (fnOk_mk (nm := [0, 2]) (by kernel_rfl) (by kernel_rfl) rfl)
theorem F321_ok : FnIn prog (cD prog) 321 F321 := .inl (fnOk_mk (nm := [0, 1, 4, 5]) (by kernel_rfl) (by kernel_rfl) rfl)
theorem F325_ok : FnIn prog (cD prog) 325 F325 := .inl (fnOk_mk (nm := [0, 2]) (by kernel_rfl) (by kernel_rfl) rfl)
end
end Go.X
