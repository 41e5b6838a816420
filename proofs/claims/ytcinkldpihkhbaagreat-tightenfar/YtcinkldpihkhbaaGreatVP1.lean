/- An executable reading of the model, its soundness over any program, and what it reads of this program. -/
import Derived.Test.YtcinkldpihkhbaaGreatVG1
import Derived.Test.YtcinkldpihkhbaaGreatVXSo
import Derived.Test.YtcinkldpihkhbaaGreatProg
import Derived.KernelRfl
set_option linter.unusedSectionVars false
set_option linter.unusedVariables false
set_option linter.unusedSimpArgs false
set_option linter.constructorNameAsVariable false
namespace Go.X
open Go.Proofs.Tryz
set_option maxRecDepth 100000
noncomputable section
theorem F12_ok : FnIn prog (cD prog) 12 F12 := .inl (fnOk_mk (nm := [0, 1, 4]) (by kernel_rfl) (by kernel_rfl) rfl)
theorem F13_ok : FnIn prog (cD prog) 13 F13 := .inl (fnOk_mk (nm := [0, 1, 4, 5, 6]) (by kernel_rfl) (by kernel_rfl) rfl)
theorem F20_ok : FnIn prog (cD prog) 20 F20 := .inl (fnOk_mk (nm := [0, 1, 2, 4]) (by kernel_rfl) (by kernel_rfl) rfl)
theorem F24_ok : FnIn prog (cD prog) 24 F24 := .inl (fnOk_mk (nm := [0, 1, 4, 5]) (by kernel_rfl) (by kernel_rfl) rfl)
theorem F36_ok : FnIn prog (cD prog) 36 F36 := .inl (fnOk_mk (nm := [0, 1, 2, 6]) (by kernel_rfl) (by kernel_rfl) rfl)
theorem F48_ok : FnIn prog (cD prog) 48 F48 := .inl (fnOk_mk (nm := [0, 1, 2, 3, 4, 5, 6, 7, 8, 9, 10, 11, 12, 13, 14]) (by kernel_rfl) (by kernel_rfl) rfl)
theorem F51_ok : FnIn prog (cD prog) 51 F51 := .inl (fnOk_mk (nm := [0, 1, 2, 3, 8, 9, 10, 11, 39, 61, 92]) (by kernel_rfl) (by kernel_rfl) rfl)
theorem F74_ok : FnIn prog (cD prog) 74 F74 := .inl (fnOk_mk (nm := [0, 1, 2, 4, 5, 6, 7, 8, 9, 10, 11, 13, 14, 16, 26, 27, 28, 37, 38, 39, 40, 54, 55, 56, 64, 65, 66, 67, 95]) (by kernel_rfl) (by kernel_rfl) rfl)
theorem F84_ok : FnIn prog (cD prog) 84 F84 := .inl (fnOk_mk (nm := [0, 2, 3, 4, 5, 6, 16, 17, 18]) (by kernel_rfl) (by kernel_rfl) rfl)
theorem F98_ok : FnIn prog (cD prog) 98 F98 := .inl (fnOk_mk (nm := [0, 2]) (by kernel_rfl) (by kernel_rfl) rfl)
theorem F107_ok : FnIn prog (cD prog) 107 F107 := .inl (fnOk_mk (nm := [0, 2]) (by kernel_rfl) (by kernel_rfl) rfl)
theorem F113_ok : FnIn prog (cD prog) 113 F113 := .inl (fnOk_mk (nm := [0, 1, 4, 5, 7, 8, 9]) (by kernel_rfl) (by kernel_rfl) rfl)
theorem F119_ok : FnIn prog (cD prog) 119 F119 := .inl (fnOk_mk (nm := [0, 1, 2]) (by kernel_rfl) (by kernel_rfl) rfl)
theorem F133_ok : FnIn prog (cD prog) 133 F133 := .inl (fnOk_mk (nm := [0, 2, 3, 5, 7, 9, 11, 21, 22, 23, 24, 28, 29, 30, 31, 45, 46, 47, 48, 52, 53, 54, 55]) (by kernel_rfl) (by kernel_rfl) rfl)
theorem F147_ok : FnIn prog (cD prog) 147 F147 := .inl (fnOk_mk (nm := [0, 2, 3, 4]) (by kernel_rfl) (by kernel_rfl) rfl)
theorem F148_ok : FnIn prog (cD prog) 148 F148 := .inl (fnOk_mk (nm := [0, 1]) (by kernel_rfl) (by kernel_rfl) rfl)
theorem F158_ok : FnIn prog (cD prog) 158 F158 := .inl (fnOk_mk (nm := [0, 2, 3, 4, 5, 6, 61]) (by kernel_rfl) (by kernel_rfl) rfl)
theorem F160_ok : FnIn prog (cD prog) 160 F160 := .inl (fnOk_mk (nm := [0, 2, 3, 4, 5, 6, 7, 8, 9]) (by kernel_rfl) (by kernel_rfl) rfl)
theorem F162_ok : FnIn prog (cD prog) 162 F162 := .inl (fnOk_mk (nm := [0, 1, 4, 5, 12, 13, 14]) (by kernel_rfl) (by kernel_rfl) rfl)
theorem F166_ok : FnIn prog (cD prog) 166 F166 := .inl (fnOk_mk (nm := [0, 1, 2, 3, 4]) (by kernel_rfl) (by kernel_rfl) rfl)
theorem F179_ok : FnIn prog (cD prog) 179 F179 := .inl (fnOk_mk (nm := [0, 1, 4, 5, 6, 7, 8, 9]) (by kernel_rfl) (by kernel_rfl) rfl)
theorem F203_ok : FnIn prog (cD prog) 203 F203 := .inl (fnOk_mk (nm := [0, 1, 4]) (by kernel_rfl) (by kernel_rfl) rfl)
theorem F205_ok : FnIn prog (cD prog) 205 F205 := .inl (fnOk_mk (nm := [0, 2]) (by kernel_rfl) (by kernel_rfl) rfl)
theorem F206_ok : FnIn prog (cD prog) 206 F206 := .inl (fnOk_mk (nm := [0, 1, 2, 4, 6, 7, 8, 9, 11, 13, 14, 15, 23]) (by kernel_rfl) (by kernel_rfl) rfl)
theorem F209_ok : FnIn prog (cD prog) 209 F209 := .inl (fnOk_mk (nm := [0, 1, 2, 4]) (by kernel_rfl) (by kernel_rfl) rfl)
theorem F212_ok : FnIn prog (cD prog) 212 F212 := .inl (fnOk_mk (nm := [0, 2, 3]) (by kernel_rfl) (by kernel_rfl) rfl)
theorem F213_ok : FnIn prog (cD prog) 213 F213 := .inl (fnOk_mk (nm := [0, 1, 4, 5, 6, 7, 8, 9]) (by kernel_rfl) (by kernel_rfl) rfl)
theorem F216_ok : FnIn prog (cD prog) 216 F216 := .inl (fnOk_mk (nm := [0, 1, 2, 3, 4]) (by kernel_rfl) (by kernel_rfl) rfl)
theorem F217_ok : FnIn prog (cD prog) 217 F217 := .inl (fnOk_mk (nm := [0, 1, 2]) (by kernel_rfl) (by kernel_rfl) rfl)
theorem F219_ok : FnIn prog (cD prog) 219 F219 := .inl (fnOk_mk (nm := [0, 1, 4, 5, 6]) (by kernel_rfl) (by kernel_rfl) rfl)
theorem F220_ok : FnIn prog (cD prog) 220 F220 := .inl (fnOk_mk (nm := [0, 1, 2, 4, 5, 6, 7, 8, 9]) (by kernel_rfl) (by kernel_rfl) rfl)
theorem F225_ok : FnIn prog (cD prog) 225 F225 := .inl (fnOk_mk (nm := [0, 1, 2]) (by kernel_rfl) (by kernel_rfl) rfl)
theorem F238_ok : FnIn prog (cD prog) 238 F238 := .inl (fnOk_mk (nm := [0, 1, 4]) (by kernel_rfl) (by kernel_rfl) rfl)
theorem F239_ok : FnIn prog (cD prog) 239 F239 := .inl (fnOk_mk (nm := [0, 2]) (by kernel_rfl) (by kernel_rfl) rfl)
theorem F240_ok : FnIn prog (cD prog) 240 F240 := .inl (fnOk_mk (nm := [0, 2]) (by kernel_rfl) (by kernel_rfl) rfl)
theorem F252_ok : FnIn prog (cD prog) 252 F252 := .inl (fnOk_mk (nm := [0, 1, 4, 5]) (by kernel_rfl) (by kernel_rfl) rfl)
theorem F256_ok : FnIn prog (cD prog) 256 F256 := .inl (fnOk_mk (nm := [0, 1, 2, 4, 6, 7, 12, 13, 20, 27, 34]) (by kernel_rfl) (by kernel_rfl) rfl)
theorem F257_ok : FnIn prog (cD prog) 257 F257 := .inl (fnOk_mk (nm := [0, 2, 3, 4, 5]) (by kernel_rfl) (by kernel_rfl) rfl)
theorem F261_ok : FnIn prog (cD prog) 261 F261 := .inl (fnOk_mk (nm := [0, 1, 3]) (by kernel_rfl) (by kernel_rfl) rfl)
theorem F263_ok : FnIn prog (cD prog) 263 F263 := .inl (fnOk_mk (nm := [0, 2]) (by kernel_rfl) (by kernel_rfl) rfl)
theorem F264_ok : FnIn prog (cD prog) 264 F264 := .inl (fnOk_mk (nm := [0, 1, 2, 4, 6, 8, 9, 10]) (by kernel_rfl) (by kernel_rfl) rfl)
theorem F272_ok : FnIn prog (cD prog) 272 F272 := .inl (fnOk_mk (nm := [0, 1, 4, 5]) (by kernel_rfl) (by kernel_rfl) rfl)
theorem F274_ok : FnIn prog (cD prog) 274 F274 := .inl (fnOk_mk (nm := [0, 1, 4]) (by kernel_rfl) (by kernel_rfl) rfl)
theorem F279_ok : FnIn prog (cD prog) 279 F279 := .inl (fnOk_mk (nm := [0, 2]) (by kernel_rfl) (by kernel_rfl) rfl)
theorem F283_ok : FnIn prog (cD prog) 283 F283 := .inl (fnOk_mk (nm := [0, 1, 2, 6, 7, 8, 9, 10]) (by kernel_rfl) (by kernel_rfl) rfl)
theorem F284_ok : FnIn prog (cD prog) 284 F284 := .inl (fnOk_mk (nm := [0, 1, 2, 6]) (by kernel_rfl) (by kernel_rfl) rfl)
theorem F285_ok : FnIn prog (cD prog) 285 F285 := .inl (fnOk_mk (nm := [0, 1, 2, 3, 8, 9, 10]) (by kernel_rfl) (by kernel_rfl) rfl)
theorem F286_ok : FnIn prog (cD prog) 286 F286 := .inl (fnOk_mk (nm := [0, 1, 4]) (by kernel_rfl) (by kernel_rfl) rfl)
theorem F307_ok : FnIn prog (cD prog) 307 F307 := .inl (fnOk_mk (nm := [0, 1, 2, 6, 7, 8, 9, 10, 11, 12, 49]) (by kernel_rfl) (by kernel_rfl) rfl)
theorem F312_ok : FnIn prog (cD prog) 312 F312 := .inl (fnOk_mk (nm := [0, 2]) (by kernel_rfl) (by kernel_rfl) rfl)
theorem F313_ok : FnIn prog (cD prog) 313 F313 := .inl (fnOk_mk (nm := [0, 2]) (by kernel_rfl) (by kernel_rfl) rfl)
theorem F314_ok : FnIn prog (cD prog) 314 F314 := .inl (fnOk_mk (nm := [0, 2]) (by kernel_rfl) (by kernel_rfl) rfl)
theorem F315_ok : FnIn prog (cD prog) 315 F315 := .inl (fnOk_mk (nm := [0, 1, 2, 6]) (by kernel_rfl) (by kernel_rfl) rfl)
end
end Go.X
