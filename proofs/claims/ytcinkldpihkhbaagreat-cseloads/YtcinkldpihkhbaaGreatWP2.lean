/- An executable reading of the model, its soundness over any program, and what it reads of this program. -/
import Derived.Test.YtcinkldpihkhbaaGreatWG2
import Derived.Test.YtcinkldpihkhbaaGreatWXSo
import Derived.Test.YtcinkldpihkhbaaGreatProg
import Derived.KernelRfl
set_option linter.unusedSectionVars false
set_option linter.unusedVariables false
set_option linter.unusedSimpArgs false
set_option linter.constructorNameAsVariable false
namespace Go.X
open Go.Proofs.Tryz
set_option maxRecDepth 100000
noncomputable section
theorem F32_ok : FnIn prog (cD prog) 32 F32 := .inl (fnOk_mk (nm := [0, 2]) (by kernel_rfl) (by kernel_rfl) rfl)
theorem F37_ok : FnIn prog (cD prog) 37 F37 := .inl (fnOk_mk (nm := [0, 1, 2, 3, 8]) (by kernel_rfl) (by kernel_rfl) rfl)
theorem F61_ok : FnIn prog (cD prog) 61 F61 := .inl (fnOk_mk (nm := [0, 1, 4, 5, 10, 11, 12, 36, 37, 38]) (by kernel_rfl) (by kernel_rfl) rfl)
theorem F63_ok : FnIn prog (cD prog) 63 F63 := .inl (fnOk_mk (nm := [0, 1, 2, 3, 4]) (by kernel_rfl) (by kernel_rfl) rfl)
theorem F71_ok : FnIn prog (cD prog) 71 F71 := .inl (fnOk_mk (nm := [0, 1, 2, 3, 4]) (by kernel_rfl) (by kernel_rfl) rfl)
theorem F75_ok : FnIn prog (cD prog) 75 F75 := .inl (fnOk_mk (nm := [0, 2, 3, 4, 12, 13, 14]) (by kernel_rfl) (by kernel_rfl) rfl)
theorem F76_ok : FnIn prog (cD prog) 76 F76 := .inl (fnOk_mk (nm := [0, 1, 2, 3, 4, 5, 7, 9, 10, 11, 12, 13, 14, 15, 17, 19, 27, 28, 29, 30, 62, 63, 64, 65, 98, 99, 100, 101, 108, 109, 110, 111]) (by kernel_rfl) (by kernel_rfl) rfl)
theorem F78_ok : FnIn prog (cD prog) 78 F78 := .inl (fnOk_mk (nm := [0, 1, 4]) (by kernel_rfl) (by kernel_rfl) rfl)
theorem F92_ok : FnIn prog (cD prog) 92 F92 := .inl (fnOk_mk (nm := [0, 2]) (by kernel_rfl) (by kernel_rfl) rfl)
theorem F98_ok : FnIn prog (cD prog) 98 F98 := .inl (fnOk_mk (nm := [0, 2]) (by kernel_rfl) (by kernel_rfl) rfl)
theorem F110_ok : FnIn prog (cD prog) 110 F110 := .inl (fnOk_mk (nm := [0, 1, 2, 3, 4, 5]) (by kernel_rfl) (by kernel_rfl) rfl)
theorem F118_ok : FnIn prog (cD prog) 118 F118 := .inl (fnOk_mk (nm := [0, 2]) (by kernel_rfl) (by kernel_rfl) rfl)
theorem F123_ok : FnIn prog (cD prog) 123 F123 := .inl (fnOk_mk (nm := [0, 1, 2, 3, 6]) (by kernel_rfl) (by kernel_rfl) rfl)
theorem F125_ok : FnIn prog (cD prog) 125 F125 := .inl (fnOk_mk (nm := [0, 1, 3, 4, 5, 6, 7, 8]) (by kernel_rfl) (by kernel_rfl) rfl)
theorem F139_ok : FnIn prog (cD prog) 139 F139 := .inl (fnOk_mk (nm := [0, 2]) (by kernel_rfl) (by kernel_rfl) rfl)
theorem F142_ok : FnIn prog (cD prog) 142 F142 := .inl (fnOk_mk (nm := [0, 2, 3, 6, 9, 12, 15]) (by kernel_rfl) (by kernel_rfl) rfl)
theorem F152_ok : FnIn prog (cD prog) 152 F152 := .inl (fnOk_mk (nm := [0, 1, 2, 3, 4, 5, 6, 7, 8, 37, 38, 39, 40, 45, 46, 47, 48, 61, 62, 63, 64]) (by kernel_rfl) (by kernel_rfl) rfl)
theorem F156_ok : FnIn prog (cD prog) 156 F156 := .inl (fnOk_mk (nm := [0, 2, 3, 4, 5, 6, 7, 8]) (by kernel_rfl) (by kernel_rfl) rfl)
theorem F175_ok : FnIn prog (cD prog) 175 F175 := .inl (fnOk_mk (nm := [0, 1, 4]) (by kernel_rfl) (by kernel_rfl) rfl)
theorem F177_ok : FnIn prog (cD prog) 177 F177 := .inl (fnOk_mk (nm := [0, 1, 2, 6]) (by kernel_rfl) (by kernel_rfl) rfl)
theorem F205_ok : FnIn prog (cD prog) 205 F205 := .inl (fnOk_mk (nm := [0, 2]) (by kernel_rfl) (by kernel_rfl) rfl)
theorem F212_ok : FnIn prog (cD prog) 212 F212 := .inl (fnOk_mk (nm := [0, 2, 3]) (by kernel_rfl) (by kernel_rfl) rfl)
theorem F213_ok : FnIn prog (cD prog) 213 F213 := .inl (fnOk_mk (nm := [0, 1, 4, 5, 6, 7, 8, 9]) (by kernel_rfl) (by kernel_rfl) rfl)
theorem F222_ok : FnIn prog (cD prog) 222 F222 := .inl (fnOk_mk (nm := [0, 1, 4]) (by kernel_rfl) (by kernel_rfl) rfl)
theorem F224_ok : FnIn prog (cD prog) 224 F224 := .inl (fnOk_mk (nm := [0, 1, 2, 3, 8]) (by kernel_rfl) (by kernel_rfl) rfl)
theorem F229_ok : FnIn prog (cD prog) 229 F229 := .inl (fnOk_mk (nm := [0, 1, 2, 6, 7, 8, 9, 10, 11, 12, 13, 14, 15, 16, 18, 65]) (by kernel_rfl) (by kernel_rfl) rfl)
theorem F238_ok : FnIn prog (cD prog) 238 F238 := .inl (fnOk_mk (nm := [0, 1, 4]) (by kernel_rfl) (by kernel_rfl) rfl)
theorem F245_ok : FnIn prog (cD prog) 245 F245 := .inl (fnOk_mk (nm := [0, 1, 2, 6, 7]) (by kernel_rfl) (by kernel_rfl) rfl)
theorem F251_ok : FnIn prog (cD prog) 251 F251 := .inl (fnOk_mk (nm := [0, 1, 2, 3, 8, 9, 10]) (by kernel_rfl) (by kernel_rfl) rfl)
theorem F252_ok : FnIn prog (cD prog) 252 F252 := .inl (fnOk_mk (nm := [0, 1, 4, 5]) (by kernel_rfl) (by kernel_rfl) rfl)
theorem F255_ok : FnIn prog (cD prog) 255 F255 := .inl (fnOk_mk (nm := [0, 1, 3]) (by kernel_rfl) (by kernel_rfl) rfl)
theorem F259_ok : FnIn prog (cD prog) 259 F259 := .inl (fnOk_mk (nm := [0, 2]) (by kernel_rfl) (by kernel_rfl) rfl)
theorem F260_ok : FnIn prog (cD prog) 260 F260 := .inl (fnOk_mk (nm := [0, 1, 3]) (by kernel_rfl) (by kernel_rfl) rfl)
theorem F261_ok : FnIn prog (cD prog) 261 F261 := .inl (fnOk_mk (nm := [0, 1, 3]) (by kernel_rfl) (by kernel_rfl) rfl)
theorem F262_ok : FnIn prog (cD prog) 262 F262 := .inl (fnOk_mk (nm := [0, 1, 4]) (by kernel_rfl) (by kernel_rfl) rfl)
theorem F264_ok : FnIn prog (cD prog) 264 F264 := .inl (fnOk_mk (nm := [0, 1, 2, 4, 6, 8, 9, 10]) (by kernel_rfl) (by kernel_rfl) rfl)
theorem F272_ok : FnIn prog (cD prog) 272 F272 := .inl (fnOk_mk (nm := [0, 1, 4, 5]) (by kernel_rfl) (by kernel_rfl) rfl)
theorem F273_ok : FnIn prog (cD prog) 273 F273 := .inl (fnOk_mk (nm := [0, 1, 3, 4, 5, 6, 7, 8]) (by kernel_rfl) (by kernel_rfl) rfl)
theorem F278_ok : FnIn prog (cD prog) 278 F278 := .inl (fnOk_mk (nm := [0, 1, 2, 4, 5]) (by kernel_rfl) (by kernel_rfl) rfl)
theorem F281_ok : FnIn prog (cD prog) 281 F281 := .inl (fnOk_mk (nm := [0, 1, 2, 6]) (by kernel_rfl) (by kernel_rfl) rfl)
theorem F283_ok : FnIn prog (cD prog) 283 F283 := .inl (fnOk_mk (nm := [0, 1, 2, 6, 7, 8, 9, 10]) (by kernel_rfl) (by kernel_rfl) rfl)
theorem F286_ok : FnIn prog (cD prog) 286 F286 := .inl (fnOk_mk (nm := [0, 1, 4]) (by kernel_rfl) (by kernel_rfl) rfl)
theorem F287_ok : FnIn prog (cD prog) 287 F287 := .inl (fnOk_mk (nm := [0, 1, 2, 3, 4]) (by kernel_rfl) (by kernel_rfl) rfl)
theorem F301_ok : FnIn prog (cD prog) 301 F301 := .inl (fnOk_mk (nm := [0, 1, 2, 3, 8, 9, 10, 11]) (by kernel_rfl) (by kernel_rfl) rfl)
theorem F305_ok : FnIn prog (cD prog) 305 F305 := .inl (fnOk_mk (nm := [0, 1, 2, 6, 7, 8, 9, 10]) (by kernel_rfl) (by kernel_rfl) rfl)
theorem F307_ok : FnIn prog (cD prog) 307 F307 := .inl (fnOk_mk (nm := [0, 1, 2, 6, 7, 8, 9, 10, 11, 12, 49]) (by kernel_rfl) (by kernel_rfl) rfl)
theorem F310_ok : FnIn prog (cD prog) 310 F310 := .inl (fnOk_mk (nm := [0, 1, 2, 3, 8, 9, 10]) (by kernel_rfl) (by kernel_rfl) rfl)
theorem F311_ok : FnIn prog (cD prog) 311 F311 := .inl (fnOk_mk (nm := [0, 1, 2, 3, 8, 9, 10, 11]) (by kernel_rfl) (by kernel_rfl) rfl)
end
end Go.X
