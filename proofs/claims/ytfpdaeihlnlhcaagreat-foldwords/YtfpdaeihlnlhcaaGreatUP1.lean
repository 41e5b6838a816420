/- An executable reading of the model, its soundness over any program, and what it reads of this program. -/
import Derived.Test.YtfpdaeihlnlhcaaGreatUG1
import Derived.Test.YtfpdaeihlnlhcaaGreatUXSo
import Derived.Test.YtfpdaeihlnlhcaaGreatUWG
import Derived.Test.YtfpdaeihlnlhcaaGreatProg
import Derived.KernelRfl
set_option linter.unusedSectionVars false
set_option linter.unusedVariables false
set_option linter.unusedSimpArgs false
set_option linter.constructorNameAsVariable false
namespace Go.X
open Go.Proofs.Tryz
set_option maxRecDepth 100000
noncomputable section
theorem F7_ok : FnIn prog (cD prog) 7 F7 := .inl (fnOk_mk (nm := [0, 1, 2, 3, 8, 9]) (by kernel_rfl) (by kernel_rfl) rfl spNo_ok)
theorem F8_ok : FnIn prog (cD prog) 8 F8 := .inl (fnOk_mk (nm := [0, 1, 2, 6]) (by kernel_rfl) (by kernel_rfl) rfl spNo_ok)
theorem F9_ok : FnIn prog (cD prog) 9 F9 := .inl (fnOk_mk (nm := [0, 1]) (by kernel_rfl) (by kernel_rfl) rfl spNo_ok)
theorem F12_ok : FnIn prog (cD prog) 12 F12 := .inl (fnOk_mk (nm := [0, 1, 2, 3, 8, 9, 10, 11, 39, 61, 92]) (by kernel_rfl) (by kernel_rfl) rfl spF_ok12)
theorem F13_ok : FnIn prog (cD prog) 13 F13 := .inl (fnOk_mk (nm := [0, 2]) (by kernel_rfl) (by kernel_rfl) rfl spNo_ok)
theorem F15_ok : FnIn prog (cD prog) 15 F15 := .inl (fnOk_mk (nm := [0, 1, 2, 3, 4, 5]) (by kernel_rfl) (by kernel_rfl) rfl spNo_ok)
theorem F16_ok : FnIn prog (cD prog) 16 F16 := .inl (fnOk_mk (nm := [0, 1, 2]) (by kernel_rfl) (by kernel_rfl) rfl spNo_ok)
theorem F27_ok : FnIn prog (cD prog) 27 F27 := .inl (fnOk_mk (nm := [0, 1, 4, 5, 6, 7, 8, 9, 10, 12, 20, 21, 22, 50, 51, 52, 53]) (by kernel_rfl) (by kernel_rfl) rfl spNo_ok)
theorem F37_ok : FnIn prog (cD prog) 37 F37 := .inl (fnOk_mk (nm := [0, 1, 2, 3, 4]) (by kernel_rfl) (by kernel_rfl) rfl spNo_ok)
theorem F41_ok : FnIn prog (cD prog) 41 F41 := .inl (fnOk_mk (nm := [0, 2]) (by kernel_rfl) (by kernel_rfl) rfl spNo_ok)
theorem F43_ok : FnIn prog (cD prog) 43 F43 := .inl (fnOk_mk (nm := [0, 2]) (by kernel_rfl) (by kernel_rfl) rfl spNo_ok)
theorem F44_ok : FnIn prog (cD prog) 44 F44 := .inl (fnOk_mk (nm := [0, 1, 2, 4, 5, 24, 25, 26, 27]) (by kernel_rfl) (by kernel_rfl) rfl spNo_ok)
theorem F70_ok : FnIn prog (cD prog) 70 F70 := .inl (fnOk_mk (nm := [0, 1, 4]) (by kernel_rfl) (by kernel_rfl) rfl spNo_ok)
theorem F73_ok : FnIn prog (cD prog) 73 F73 := .inl (fnOk_mk (nm := [0, 1, 4, 5, 7, 9, 50, 53]) (by kernel_rfl) (by kernel_rfl) rfl spNo_ok)
theorem F74_ok : FnIn prog (cD prog) 74 F74 := .inl (fnOk_mk (nm := [0, 1, 4, 5, 40, 43, 52, 59]) (by kernel_rfl) (by kernel_rfl) rfl spNo_ok)
theorem F75_ok : FnIn prog (cD prog) 75 F75 := .inl (fnOk_mk (nm := [0, 1, 4, 5, 6, 7]) (by kernel_rfl) (by kernel_rfl) rfl spNo_ok)
theorem F80_ok : FnIn prog (cD prog) 80 F80 := .inl (fnOk_mk (nm := [0, 1, 3, 4, 5, 6, 7, 8]) (by kernel_rfl) (by kernel_rfl) rfl spNo_ok)
theorem F81_ok : FnIn prog (cD prog) 81 F81 := .inl (fnOk_mk (nm := [0, 1, 4, 5, 10, 11, 12, 36, 37, 38]) (by kernel_rfl) (by kernel_rfl) rfl spNo_ok)
theorem F84_ok : FnIn prog (cD prog) 84 F84 := .inl (fnOk_mk (nm := [0, 1, 2]) (by kernel_rfl) (by kernel_rfl) rfl spNo_ok)
theorem F90_ok : FnIn prog (cD prog) 90 F90 := .inl (fnOk_mk (nm := [0, 1, 2, 3, 4, 5, 6, 7, 8, 9, 10, 11]) (by kernel_rfl) (by kernel_rfl) rfl spNo_ok)
theorem F93_ok : FnIn prog (cD prog) 93 F93 := .inl (fnOk_mk (nm := [0, 2]) (by kernel_rfl) (by kernel_rfl) rfl spNo_ok)
theorem F96_ok : FnIn prog (cD prog) 96 F96 := .inl (fnOk_mk (nm := [0, 1, 2, 6, 7, 8, 9, 10]) (by kernel_rfl) (by kernel_rfl) rfl spNo_ok)
theorem F101_ok : FnIn prog (cD prog) 101 F101 := .inl (fnOk_mk (nm := [0, 1, 2, 3, 4]) (by kernel_rfl) (by kernel_rfl) rfl spNo_ok)
theorem F103_ok : FnIn prog (cD prog) 103 F103 := .inl (fnOk_mk (nm := [0, 2]) (by kernel_rfl) (by kernel_rfl) rfl spNo_ok)
theorem F106_ok : FnIn prog (cD prog) 106 F106 := .inl (fnOk_mk (nm := [0, 1, 4]) (by kernel_rfl) (by kernel_rfl) rfl spNo_ok)
theorem F108_ok : FnIn prog (cD prog) 108 F108 := .inl (fnOk_mk (nm := [0, 2]) (by kernel_rfl) (by kernel_rfl) rfl spNo_ok)
theorem F110_ok : FnIn prog (cD prog) 110 F110 := .inl (fnOk_mk (nm := [0, 1, 2, 3, 4, 5, 6, 7]) (by kernel_rfl) (by kernel_rfl) rfl spNo_ok)
theorem F111_ok : FnIn prog (cD prog) 111 F111 := .inl (fnOk_mk (nm := [0, 1, 2, 4, 6, 7, 8, 9, 11, 13, 14, 15, 23]) (by kernel_rfl) (by kernel_rfl) rfl spNo_ok)
theorem F115_ok : FnIn prog (cD prog) 115 F115 := .inl (fnOk_mk (nm := [0, 1, 2, 6]) (by kernel_rfl) (by kernel_rfl) rfl spNo_ok)
theorem F116_ok : FnIn prog (cD prog) 116 F116 := .inl (fnOk_mk (nm := [0, 1, 2, 4]) (by kernel_rfl) (by kernel_rfl) rfl spNo_ok)
theorem F128_ok : FnIn prog (cD prog) 128 F128 := .inl (fnOk_mk (nm := [0, 1, 2, 3, 8, 9, 10]) (by kernel_rfl) (by kernel_rfl) rfl spF_ok128)
theorem F131_ok : FnIn prog (cD prog) 131 F131 := .inl (fnOk_mk (nm := [0, 1, 2]) (by kernel_rfl) (by kernel_rfl) rfl spNo_ok)
theorem F134_ok : FnIn prog (cD prog) 134 F134 := .inl (fnOk_mk (nm := [0, 1, 2, 6, 7, 8, 10, 11, 12, 33, 34, 35, 36, 52, 53, 54, 55]) (by kernel_rfl) (by kernel_rfl) rfl spNo_ok)
theorem F135_ok : FnIn prog (cD prog) 135 F135 := .inl (fnOk_mk (nm := [0, 1, 2, 6, 7]) (by kernel_rfl) (by kernel_rfl) rfl spNo_ok)
theorem F136_ok : FnIn prog (cD prog) 136 F136 := .inl (fnOk_mk (nm := [0, 2, 3]) (by kernel_rfl) (by kernel_rfl) rfl spNo_ok)
theorem F141_ok : FnIn prog (cD prog) 141 F141 := .inl (fnOk_mk (nm := [0, 1, 2]) (by kernel_rfl) (by kernel_rfl) rfl spNo_ok)
theorem F146_ok : FnIn prog (cD prog) 146 F146 := .inl (fnOk_mk (nm := [0, 1, 4]) (by kernel_rfl) (by kernel_rfl) rfl spNo_ok)
theorem F147_ok : FnIn prog (cD prog) 147 F147 := .inl (fnOk_mk (nm := [0, 1, 2, 3, 8, 9, 10]) (by kernel_rfl) (by kernel_rfl) rfl spNo_ok)
theorem F153_ok : FnIn prog (cD prog) 153 F153 := .inl (fnOk_mk (nm := [0, 1, 4, 5, 6, 7, 8, 9, 10, 11, 58]) (by kernel_rfl) (by kernel_rfl) rfl spNo_ok)
theorem F155_ok : FnIn prog (cD prog) 155 F155 := .inl (fnOk_mk (nm := [0, 1, 2, 3, 4]) (by kernel_rfl) (by kernel_rfl) rfl spNo_ok)
theorem F160_ok : FnIn prog (cD prog) 160 F160 := .inl (fnOk_mk (nm := [0, 1, 2, 3, 8, 9, 10, 11, 12, 13, 14, 15, 16, 17, 18]) (by kernel_rfl) (by kernel_rfl) rfl spNo_ok)
theorem F161_ok : FnIn prog (cD prog) 161 F161 := .inl (fnOk_mk (nm := [0, 2]) (by kernel_rfl) (by kernel_rfl) rfl spNo_ok)
theorem F171_ok : FnIn prog (cD prog) 171 F171 := .inl (fnOk_mk (nm := [0, 1, 3]) (by kernel_rfl) (by kernel_rfl) rfl spNo_ok)
theorem F173_ok : FnIn prog (cD prog) 173 F173 := .inl (fnOk_mk (nm := [0, 1, 4, 15, 16, 29, 35]) (by kernel_rfl) (by kernel_rfl) rfl spNo_ok)
theorem F180_ok : FnIn prog (cD prog) 180 F180 := .inl (fnOk_mk (nm := [0, 1, 3, 4, 6, 7]) (by kernel_rfl) (by kernel_rfl) rfl spNo_ok)
theorem F184_ok : FnIn prog (cD prog) 184 F184 := .inl (fnOk_mk (nm := [0, 1, 2, 4, 5]) (by kernel_rfl) (by kernel_rfl) rfl spNo_ok)
theorem F191_ok : FnIn prog (cD prog) 191 F191 := .inl (fnOk_mk (nm := [0, 1, 2, 4, 5]) (by kernel_rfl) (by kernel_rfl) rfl spNo_ok)
theorem F199_ok : FnIn prog (cD prog) 199 F199 := .inl (fnOk_mk (nm := [0, 1, 2, 6, 7, 8, 9, 10]) (by kernel_rfl) (by kernel_rfl) rfl spNo_ok)
theorem F202_ok : FnIn prog (cD prog) 202 F202 := .inl (fnOk_mk (nm := [0, 1, 2, 6, 7]) (by kernel_rfl) (by kernel_rfl) rfl spNo_ok)
theorem F204_ok : FnIn prog (cD prog) 204 F204 := .inl (fnOk_mk (nm := [0, 1, 4]) (by kernel_rfl) (by kernel_rfl) rfl spNo_ok)
theorem F211_ok : FnIn prog (cD prog) 211 F211 := .inl (fnOk_mk (nm := [0, 1, 4, 5]) (by kernel_rfl) (by kernel_rfl) rfl spNo_ok)
theorem F218_ok : FnIn prog (cD prog) 218 F218 := .inl (fnOk_mk (nm := [0, 1, 2, 3, 8, 9, 10]) (by kernel_rfl) (by kernel_rfl) rfl spNo_ok)
theorem F222_ok : FnIn prog (cD prog) 222 F222 := .inl (fnOk_mk (nm := [0, 2]) (by kernel_rfl) (by kernel_rfl) rfl spNo_ok)
theorem F227_ok : FnIn prog (cD prog) 227 F227 := .inl (fnOk_mk (nm := [0, 2]) (by kernel_rfl) (by kernel_rfl) rfl spNo_ok)
theorem F228_ok : FnIn prog (cD prog) 228 F228 := .inl (fnOk_mk (nm := [0, 2]) (by kernel_rfl) (by kernel_rfl) rfl spNo_ok)
end
end Go.X
