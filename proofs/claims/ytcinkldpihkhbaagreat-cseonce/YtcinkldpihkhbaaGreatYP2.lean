/- An executable reading of the model, its soundness over any program, and what it reads of this program. -/
import Derived.Test.YtcinkldpihkhbaaGreatYG2
import Derived.Test.YtcinkldpihkhbaaGreatYXSo
import Derived.Test.YtcinkldpihkhbaaGreatProg
import Derived.KernelRfl
set_option linter.unusedSectionVars false
set_option linter.unusedVariables false
set_option linter.unusedSimpArgs false
set_option linter.constructorNameAsVariable false
namespace Go.X
open Go.Proofs.Tryz
set_option maxRecDepth 100000
noncomputable section
theorem F32_ok : FnOk prog (cD prog) 32 F32 := fnOk_mk (nm := [0, 2]) (by kernel_rfl) (by kernel_rfl)
theorem F37_ok : FnOk prog (cD prog) 37 F37 := fnOk_mk (nm := [0, 1, 2, 3, 8]) (by kernel_rfl) (by kernel_rfl)
theorem F61_ok : FnOk prog (cD prog) 61 F61 := fnOk_mk (nm := [0, 1, 4, 5, 10, 11, 12, 36, 37, 38]) (by kernel_rfl) (by kernel_rfl)
theorem F63_ok : FnOk prog (cD prog) 63 F63 := fnOk_mk (nm := [0, 1, 2, 3, 4]) (by kernel_rfl) (by kernel_rfl)
theorem F71_ok : FnOk prog (cD prog) 71 F71 := fnOk_mk (nm := [0, 1, 2, 3, 4]) (by kernel_rfl) (by kernel_rfl)
theorem F75_ok : FnOk prog (cD prog) 75 F75 := fnOk_mk (nm := [0, 2, 3, 4, 12, 13, 14]) (by kernel_rfl) (by kernel_rfl)
theorem F76_ok : FnOk prog (cD prog) 76 F76 := fnOk_mk (nm := [0, 1, 2, 3, 4, 5, 7, 9, 10, 11, 12, 13, 14, 15, 17, 19, 27, 28, 29, 30, 62, 63, 64, 65, 98, 99, 100, 101, 108, 109, 110, 111]) (by kernel_rfl) (by kernel_rfl)
theorem F78_ok : FnOk prog (cD prog) 78 F78 := fnOk_mk (nm := [0, 1, 4]) (by kernel_rfl) (by kernel_rfl)
theorem F92_ok : FnOk prog (cD prog) 92 F92 := fnOk_mk (nm := [0, 2]) (by kernel_rfl) (by kernel_rfl)
theorem F98_ok : FnOk prog (cD prog) 98 F98 := fnOk_mk (nm := [0, 2]) (by kernel_rfl) (by kernel_rfl)
theorem F110_ok : FnOk prog (cD prog) 110 F110 := fnOk_mk (nm := [0, 1, 2, 3, 4, 5]) (by kernel_rfl) (by kernel_rfl)
theorem F118_ok : FnOk prog (cD prog) 118 F118 := fnOk_mk (nm := [0, 2]) (by kernel_rfl) (by kernel_rfl)
theorem F123_ok : FnOk prog (cD prog) 123 F123 := fnOk_mk (nm := [0, 1, 2, 3, 6]) (by kernel_rfl) (by kernel_rfl)
theorem F125_ok : FnOk prog (cD prog) 125 F125 := fnOk_mk (nm := [0, 1, 3, 4, 5, 6, 7, 8]) (by kernel_rfl) (by kernel_rfl)
theorem F139_ok : FnOk prog (cD prog) 139 F139 := fnOk_mk (nm := [0, 2]) (by kernel_rfl) (by kernel_rfl)
theorem F142_ok : FnOk prog (cD prog) 142 F142 := fnOk_mk (nm := [0, 2, 3, 6, 9, 12, 15]) (by kernel_rfl) (by kernel_rfl)
theorem F152_ok : FnOk prog (cD prog) 152 F152 := fnOk_mk (nm := [0, 1, 2, 3, 4, 5, 6, 7, 8, 37, 38, 39, 40, 45, 46, 47, 48, 61, 62, 63, 64]) (by kernel_rfl) (by kernel_rfl)
theorem F156_ok : FnOk prog (cD prog) 156 F156 := fnOk_mk (nm := [0, 2, 3, 4, 5, 6, 7, 8]) (by kernel_rfl) (by kernel_rfl)
theorem F175_ok : FnOk prog (cD prog) 175 F175 := fnOk_mk (nm := [0, 1, 4]) (by kernel_rfl) (by kernel_rfl)
theorem F177_ok : FnOk prog (cD prog) 177 F177 := fnOk_mk (nm := [0, 1, 2, 6]) (by kernel_rfl) (by kernel_rfl)
theorem F205_ok : FnOk prog (cD prog) 205 F205 := fnOk_mk (nm := [0, 2]) (by kernel_rfl) (by kernel_rfl)
theorem F212_ok : FnOk prog (cD prog) 212 F212 := fnOk_mk (nm := [0, 2, 3]) (by kernel_rfl) (by kernel_rfl)
theorem F213_ok : FnOk prog (cD prog) 213 F213 := fnOk_mk (nm := [0, 1, 4, 5, 6, 7, 8, 9]) (by kernel_rfl) (by kernel_rfl)
theorem F222_ok : FnOk prog (cD prog) 222 F222 := fnOk_mk (nm := [0, 1, 4]) (by kernel_rfl) (by kernel_rfl)
theorem F224_ok : FnOk prog (cD prog) 224 F224 := fnOk_mk (nm := [0, 1, 2, 3, 8]) (by kernel_rfl) (by kernel_rfl)
theorem F229_ok : FnOk prog (cD prog) 229 F229 := fnOk_mk (nm := [0, 1, 2, 6, 7, 8, 9, 10, 11, 12, 13, 14, 15, 16, 18, 65]) (by kernel_rfl) (by kernel_rfl)
theorem F238_ok : FnOk prog (cD prog) 238 F238 := fnOk_mk (nm := [0, 1, 4]) (by kernel_rfl) (by kernel_rfl)
theorem F245_ok : FnOk prog (cD prog) 245 F245 := fnOk_mk (nm := [0, 1, 2, 6, 7]) (by kernel_rfl) (by kernel_rfl)
theorem F251_ok : FnOk prog (cD prog) 251 F251 := fnOk_mk (nm := [0, 1, 2, 3, 8, 9, 10]) (by kernel_rfl) (by kernel_rfl)
theorem F252_ok : FnOk prog (cD prog) 252 F252 := fnOk_mk (nm := [0, 1, 4, 5]) (by kernel_rfl) (by kernel_rfl)
theorem F255_ok : FnOk prog (cD prog) 255 F255 := fnOk_mk (nm := [0, 1, 3]) (by kernel_rfl) (by kernel_rfl)
theorem F259_ok : FnOk prog (cD prog) 259 F259 := fnOk_mk (nm := [0, 2]) (by kernel_rfl) (by kernel_rfl)
theorem F260_ok : FnOk prog (cD prog) 260 F260 := fnOk_mk (nm := [0, 1, 3]) (by kernel_rfl) (by kernel_rfl)
theorem F261_ok : FnOk prog (cD prog) 261 F261 := fnOk_mk (nm := [0, 1, 3]) (by kernel_rfl) (by kernel_rfl)
theorem F262_ok : FnOk prog (cD prog) 262 F262 := fnOk_mk (nm := [0, 1, 4]) (by kernel_rfl) (by kernel_rfl)
theorem F264_ok : FnOk prog (cD prog) 264 F264 := fnOk_mk (nm := [0, 1, 2, 4, 6, 8, 9, 10]) (by kernel_rfl) (by kernel_rfl)
theorem F272_ok : FnOk prog (cD prog) 272 F272 := fnOk_mk (nm := [0, 1, 4, 5]) (by kernel_rfl) (by kernel_rfl)
theorem F273_ok : FnOk prog (cD prog) 273 F273 := fnOk_mk (nm := [0, 1, 3, 4, 5, 6, 7, 8]) (by kernel_rfl) (by kernel_rfl)
theorem F278_ok : FnOk prog (cD prog) 278 F278 := fnOk_mk (nm := [0, 1, 2, 4, 5]) (by kernel_rfl) (by kernel_rfl)
theorem F281_ok : FnOk prog (cD prog) 281 F281 := fnOk_mk (nm := [0, 1, 2, 6]) (by kernel_rfl) (by kernel_rfl)
theorem F283_ok : FnOk prog (cD prog) 283 F283 := fnOk_mk (nm := [0, 1, 2, 6, 7, 8, 9, 10]) (by kernel_rfl) (by kernel_rfl)
theorem F286_ok : FnOk prog (cD prog) 286 F286 := fnOk_mk (nm := [0, 1, 4]) (by kernel_rfl) (by kernel_rfl)
theorem F287_ok : FnOk prog (cD prog) 287 F287 := fnOk_mk (nm := [0, 1, 2, 3, 4]) (by kernel_rfl) (by kernel_rfl)
theorem F301_ok : FnOk prog (cD prog) 301 F301 := fnOk_mk (nm := [0, 1, 2, 3, 8, 9, 10, 11]) (by kernel_rfl) (by kernel_rfl)
theorem F305_ok : FnOk prog (cD prog) 305 F305 := fnOk_mk (nm := [0, 1, 2, 6, 7, 8, 9, 10]) (by kernel_rfl) (by kernel_rfl)
theorem F307_ok : FnOk prog (cD prog) 307 F307 := fnOk_mk (nm := [0, 1, 2, 6, 7, 8, 9, 10, 11, 12, 49]) (by kernel_rfl) (by kernel_rfl)
theorem F310_ok : FnOk prog (cD prog) 310 F310 := fnOk_mk (nm := [0, 1, 2, 3, 8, 9, 10]) (by kernel_rfl) (by kernel_rfl)
theorem F311_ok : FnOk prog (cD prog) 311 F311 := fnOk_mk (nm := [0, 1, 2, 3, 8, 9, 10, 11]) (by kernel_rfl) (by kernel_rfl)
end
end Go.X
