/- An executable reading of the model, its soundness over any program, and what it reads of this program. -/
import Derived.Test.YtfpdaeihlnlhcaaGreatUG3
import Derived.Test.YtfpdaeihlnlhcaaGreatUXSo
import Derived.Test.YtfpdaeihlnlhcaaGreatUWG
import Derived.Test.YtfpdaeihlnlhcaaGreatProg
import Derived.KernelRfl
set_option linter.unusedSectionVars false
set_option linter.unusedVariables false
set_option linter.unusedSimpArgs false
set_option linter.constructorNameAsVariable false
namespace Go.X
open Go.Proofs.Tryz
set_option maxRecDepth 100000
noncomputable section
theorem F29_ok : FnIn prog (cD prog) 29 F29 := .inl (fnOk_mk (nm := [0, 2, 3, 6, 9, 12, 15, 18]) (by kernel_rfl) (by kernel_rfl) rfl spNo_ok)
theorem F30_ok : FnIn prog (cD prog) 30 F30 := .inl (fnOk_mk (nm := [0, 1, 4]) (by kernel_rfl) (by kernel_rfl) rfl spNo_ok)
theorem F33_ok : FnIn prog (cD prog) 33 F33 := .inl (fnOk_mk (nm := [0, 1, 2, 6, 7]) (by kernel_rfl) (by kernel_rfl) rfl spNo_ok)
theorem F35_ok : FnIn prog (cD prog) 35 F35 := .inl (fnOk_mk (nm := [0, 2]) (by kernel_rfl) (by kernel_rfl) rfl spNo_ok)
theorem F38_ok : FnIn prog (cD prog) 38 F38 := .inl (fnOk_mk (nm := [0, 2]) (by kernel_rfl) (by kernel_rfl) rfl spNo_ok)
theorem F42_ok : FnIn prog (cD prog) 42 F42 := .inl (fnOk_mk (nm := [0, 2, 3, 6, 9, 12, 15]) (by kernel_rfl) (by kernel_rfl) rfl spNo_ok)
theorem F45_ok : FnIn prog (cD prog) 45 F45 := .inl (fnOk_mk (nm := [0, 2]) (by kernel_rfl) (by kernel_rfl) rfl spNo_ok)
theorem F46_ok : FnIn prog (cD prog) 46 F46 := .inl (fnOk_mk (nm := [0, 1, 2, 3, 5, 7, 17, 18, 19, 20, 39, 40, 41, 42]) (by kernel_rfl) (by kernel_rfl) rfl spNo_ok)
theorem F49_ok : FnIn prog (cD prog) 49 F49 := .inl (fnOk_mk (nm := [0, 1, 2, 6]) (by kernel_rfl) (by kernel_rfl) rfl spNo_ok)
theorem F51_ok : FnIn prog (cD prog) 51 F51 := .inl (fnOk_mk (nm := [0, 1, 4, 5, 6]) (by kernel_rfl) (by kernel_rfl) rfl spNo_ok)
theorem F52_ok : FnIn prog (cD prog) 52 F52 := .inl (fnOk_mk (nm := [0, 1, 2]) (by kernel_rfl) (by kernel_rfl) rfl spNo_ok)
theorem F59_ok : FnIn prog (cD prog) 59 F59 := .inl (fnOk_mk (nm := [0, 2]) (by kernel_rfl) (by kernel_rfl) rfl spNo_ok)
theorem F61_ok : FnIn prog (cD prog) 61 F61 := .inl (fnOk_mk (nm := [0, 2, 3, 4]) (by kernel_rfl) (by kernel_rfl) rfl spNo_ok)
theorem F63_ok : FnIn prog (cD prog) 63 F63 := .inl (fnOk_mk (nm := [0, 2, 4, 5, 6, 7, 41, 42, 43, 44, 100, 101, 102, 113, 114, 115, 123, 124, 125]) (by kernel_rfl) (by kernel_rfl) rfl spNo_ok)
theorem F64_ok : FnIn prog (cD prog) 64 F64 := .inl (fnOk_mk (nm := [0, 2, 3, 4, 5, 7, 8, 9, 10, 11, 13, 28, 29, 30, 31, 36, 48, 49, 50, 51, 76, 77, 78, 79, 108, 109, 110, 111]) (by kernel_rfl) (by kernel_rfl) rfl spNo_ok)
theorem F67_ok : FnIn prog (cD prog) 67 F67 := .inl (fnOk_mk (nm := [0, 1, 2, 4, 5, 6, 8, 9, 10, 11, 13, 14, 15, 16, 17, 18, 30, 31, 32, 53, 54, 55, 56, 123, 124, 125, 126, 150, 151, 152, 153, 162, 163, 164, 165]) (by kernel_rfl) (by kernel_rfl) rfl spNo_ok)
theorem F76_ok : FnIn prog (cD prog) 76 F76 := .inl (fnOk_mk (nm := [0, 1, 4, 5, 6, 7]) (by kernel_rfl) (by kernel_rfl) rfl spNo_ok)
theorem F78_ok : FnIn prog (cD prog) 78 F78 := .inl (fnOk_mk (nm := [0, 1, 4, 5]) (by kernel_rfl) (by kernel_rfl) rfl spNo_ok)
theorem F79_ok : FnIn prog (cD prog) 79 F79 := .inl (fnOk_mk (nm := [0, 1, 3]) (by kernel_rfl) (by kernel_rfl) rfl spNo_ok)
theorem F85_ok : FnIn prog (cD prog) 85 F85 := .inl (fnOk_mk (nm := [0, 1, 2, 6, 8, 29, 30, 31, 32]) (by kernel_rfl) (by kernel_rfl) rfl spNo_ok)
theorem F91_ok : FnIn prog (cD prog) 91 F91 := .inl (fnOk_mk (nm := [0, 2, 3, 4, 5, 6, 7, 8, 9]) (by kernel_rfl) (by kernel_rfl) rfl spNo_ok)
theorem F97_ok : FnIn prog (cD prog) 97 F97 := .inl (fnOk_mk (nm := [0, 2]) (by kernel_rfl) (by kernel_rfl) rfl spNo_ok)
theorem F105_ok : FnIn prog (cD prog) 105 F105 := .inl (fnOk_mk (nm := [0, 1, 4, 5, 6, 7, 8, 9, 10, 11, 63, 64, 97, 98, 99, 100]) (by kernel_rfl) (by kernel_rfl) rfl spNo_ok)
theorem F107_ok : FnIn prog (cD prog) 107 F107 := .inl (fnOk_mk (nm := [0, 1, 4]) (by kernel_rfl) (by kernel_rfl) rfl spNo_ok)
theorem F114_ok : FnIn prog (cD prog) 114 F114 := .inl (fnOk_mk (nm := [0, 1, 4, 5, 7, 8, 9, 10, 11, 15, 16, 17, 18]) (by kernel_rfl) (by kernel_rfl) rfl spNo_ok)
theorem F117_ok : FnIn prog (cD prog) 117 F117 := .inl (fnOk_mk (nm := [0, 1, 2]) (by kernel_rfl) (by kernel_rfl) rfl spNo_ok)
theorem F120_ok : FnIn prog (cD prog) 120 F120 := .inl (fnOk_mk (nm := [0, 1, 3]) (by kernel_rfl) (by kernel_rfl) rfl spNo_ok)
theorem F122_ok : FnIn prog (cD prog) 122 F122 := .inl (fnOk_mk (nm := [0, 1, 2, 6, 7]) (by kernel_rfl) (by kernel_rfl) rfl spNo_ok)
theorem F123_ok : FnIn prog (cD prog) 123 F123 := .inl (fnOk_mk (nm := [0, 1, 4]) (by kernel_rfl) (by kernel_rfl) rfl spNo_ok)
theorem F129_ok : FnIn prog (cD prog) 129 F129 := .inl (fnOk_mk (nm := [0, 2]) (by kernel_rfl) (by kernel_rfl) rfl spNo_ok)
theorem F130_ok : FnIn prog (cD prog) 130 F130 := .inl (fnOk_mk (nm := [0, 1, 4, 5]) (by kernel_rfl) (by kernel_rfl) rfl spNo_ok)
theorem F139_ok : FnIn prog (cD prog) 139 F139 := .inl (fnOk_mk (nm := [0, 1, 2, 4, 6, 7, 32]) (by kernel_rfl) (by kernel_rfl) rfl spNo_ok)
theorem F142_ok : FnIn prog (cD prog) 142 F142 := .inl (fnOk_mk (nm := [0, 2, 3, 8]) (by kernel_rfl) (by kernel_rfl) rfl spNo_ok)
theorem F143_ok : FnIn prog (cD prog) 143 F143 := .inl (fnOk_mk (nm := [0, 1, 4, 5, 6]) (by kernel_rfl) (by kernel_rfl) rfl spNo_ok)
theorem F144_ok : FnIn prog (cD prog) 144 F144 := .inl (fnOk_mk (nm := [0, 1, 2, 4, 5, 6, 7, 8, 9]) (by kernel_rfl) (by kernel_rfl) rfl spNo_ok)
theorem F148_ok : FnIn prog (cD prog) 148 F148 := .inl (fnOk_mk (nm := [0, 1, 2, 3, 8]) (by kernel_rfl) (by kernel_rfl) rfl spNo_ok)
theorem F149_ok : FnIn prog (cD prog) 149 F149 := .inl (fnOk_mk (nm := [0, 1, 2]) (by kernel_rfl) (by kernel_rfl) rfl spNo_ok)
theorem F150_ok : FnIn prog (cD prog) 150 F150 := .inl (fnOk_mk (nm := [0, 1, 2, 4, 6, 7, 8, 9, 10, 11, 12, 13]) (by kernel_rfl) (by kernel_rfl) rfl spNo_ok)
theorem F151_ok : FnIn prog (cD prog) 151 F151 := .inl (fnOk_mk (nm := [0, 1, 3, 4, 5, 6]) (by kernel_rfl) (by kernel_rfl) rfl spNo_ok)
theorem F156_ok : FnIn prog (cD prog) 156 F156 := .inl (fnOk_mk (nm := [0, 1, 4]) (by kernel_rfl) (by kernel_rfl) rfl spNo_ok)
theorem F164_ok : FnIn prog (cD prog) 164 F164 := .inl (fnOk_mk (nm := [0, 1, 4]) (by kernel_rfl) (by kernel_rfl) rfl spNo_ok)
theorem F165_ok : FnIn prog (cD prog) 165 F165 := .inl (fnOk_mk (nm := [0, 2]) (by kernel_rfl) (by kernel_rfl) rfl spNo_ok)
theorem F167_ok : FnIn prog (cD prog) 167 F167 := .inl (fnOk_mk (nm := [0, 1, 3]) (by kernel_rfl) (by kernel_rfl) rfl spNo_ok)
theorem F182_ok : FnIn prog (cD prog) 182 F182 := .inl (fnOk_mk (nm := [0, 2, 3, 4, 9, 14, 19]) (by kernel_rfl) (by kernel_rfl) rfl spNo_ok)
theorem F183_ok : FnIn prog (cD prog) 183 F183 := .inl (fnOk_mk (nm := [0, 2, 3, 4]) (by kernel_rfl) (by kernel_rfl) rfl spNo_ok)
theorem F188_ok : FnIn prog (cD prog) 188 F188 := .inl (fnOk_mk (nm := [0, 2]) (by kernel_rfl) (by kernel_rfl) rfl spNo_ok)
theorem F192_ok : FnIn prog (cD prog) 192 F192 := .inl (fnOk_mk (nm := [0, 2]) (by kernel_rfl) (by kernel_rfl) rfl spNo_ok)
theorem F198_ok : FnIn prog (cD prog) 198 F198 := .inl (fnOk_mk (nm := [0, 1, 2, 6, 7]) (by kernel_rfl) (by kernel_rfl) rfl spNo_ok)
theorem F200_ok : FnIn prog (cD prog) 200 F200 := .inl (fnOk_mk (nm := [0, 1, 2, 6, 7, 8, 9, 10]) (by kernel_rfl) (by kernel_rfl) rfl spNo_ok)
theorem F212_ok : FnIn prog (cD prog) 212 F212 := .inl (fnOk_mk (nm := [0, 2]) (by kernel_rfl) (by kernel_rfl) rfl spNo_ok)
theorem F217_ok : FnIn prog (cD prog) 217 F217 := .inl (fnOk_mk (nm := [0, 1, 2, 6]) (by kernel_rfl) (by kernel_rfl) rfl spNo_ok)
theorem F219_ok : FnIn prog (cD prog) 219 F219 := .inl (fnOk_mk (nm := [0, 1, 4]) (by kernel_rfl) (by kernel_rfl) rfl spNo_ok)
theorem F221_ok : FnIn prog (cD prog) 221 F221 := .inl (fnOk_mk (nm := [0, 1, 2, 3, 8, 9]) (by kernel_rfl) (by kernel_rfl) rfl spNo_ok)
theorem F223_ok : FnIn prog (cD prog) 223 F223 := .inl (fnOk_mk (nm := [0, 2]) (by kernel_rfl) (by kernel_rfl) rfl spNo_ok)
theorem F229_ok : FnIn prog (cD prog) 229 F229 := .inl (fnOk_mk (nm := [0, 1, 2, 6]) (by kernel_rfl) (by kernel_rfl) rfl spNo_ok)
end
end Go.X
