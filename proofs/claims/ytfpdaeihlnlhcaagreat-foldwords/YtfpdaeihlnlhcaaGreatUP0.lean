/- An executable reading of the model, its soundness over any program, and what it reads of this program. -/
import Derived.Test.YtfpdaeihlnlhcaaGreatUG0
import Derived.Test.YtfpdaeihlnlhcaaGreatUXSo
import Derived.Test.YtfpdaeihlnlhcaaGreatUWG
import Derived.Test.YtfpdaeihlnlhcaaGreatProg
import Derived.KernelRfl
set_option linter.unusedSectionVars false
set_option linter.unusedVariables false
set_option linter.unusedSimpArgs false
set_option linter.constructorNameAsVariable false
namespace Go.X
open Go.Proofs.Tryz
set_option maxRecDepth 100000
noncomputable section
theorem F5_ok : FnIn prog (cD prog) 5 F5 := .inl (fnOk_mk (nm := [0, 1, 4, 5, 6]) (by kernel_rfl) (by kernel_rfl) rfl spNo_ok)
theorem F10_ok : FnIn prog (cD prog) 10 F10 := .inl (fnOk_mk (nm := [0, 1, 2, 3]) (by kernel_rfl) (by kernel_rfl) rfl spNo_ok)
theorem F14_ok : FnIn prog (cD prog) 14 F14 := .inl (fnOk_mk (nm := [0, 1, 2, 4]) (by kernel_rfl) (by kernel_rfl) rfl spNo_ok)
theorem F17_ok : FnIn prog (cD prog) 17 F17 := .inl (fnOk_mk (nm := [0, 1, 4]) (by kernel_rfl) (by kernel_rfl) rfl spNo_ok)
theorem F18_ok : FnIn prog (cD prog) 18 F18 := .inl (fnOk_mk (nm := [0, 2]) (by kernel_rfl) (by kernel_rfl) rfl spNo_ok)
theorem F19_ok : FnIn prog (cD prog) 19 F19 := .inl (fnOk_mk (nm := [0, 1, 4, 5]) (by kernel_rfl) (by kernel_rfl) rfl spNo_ok)
theorem F23_ok : FnIn prog (cD prog) 23 F23 := .inl (fnOk_mk (nm := [0, 1, 2, 4, 5, 6, 8, 9, 19, 20, 21, 22]) (by kernel_rfl) (by kernel_rfl) rfl spNo_ok)
theorem F25_ok : FnIn prog (cD prog) 25 F25 := .inl (fnOk_mk (nm := [0, 2, 4, 6, 22, 23, 24, 36, 37, 38, 39, 53, 54, 55, 56]) (by kernel_rfl) (by kernel_rfl) rfl spNo_ok)
theorem F26_ok : FnIn prog (cD prog) 26 F26 := .inl (fnOk_mk (nm := [0, 2, 3, 4, 12, 13, 14]) (by kernel_rfl) (by kernel_rfl) rfl spNo_ok)
theorem F34_ok : FnIn prog (cD prog) 34 F34 := .inl (fnOk_mk (nm := [0, 1, 2, 3, 8]) (by kernel_rfl) (by kernel_rfl) rfl spNo_ok)
theorem F39_ok : FnIn prog (cD prog) 39 F39 := .inl (fnOk_mk (nm := [0, 1, 2, 3, 4, 5, 8, 9, 10]) (by kernel_rfl) (by kernel_rfl) rfl spNo_ok)
theorem F56_ok : FnIn prog (cD prog) 56 F56 := .inl (fnOk_mk (nm := [0, 1, 2, 3, 4, 5]) (by kernel_rfl) (by kernel_rfl) rfl spNo_ok)
theorem F60_ok : FnIn prog (cD prog) 60 F60 := .inl (fnOk_mk (nm := [0, 1, 2, 3, 4]) (by kernel_rfl) (by kernel_rfl) rfl spNo_ok)
theorem F62_ok : FnIn prog (cD prog) 62 F62 := .inl (fnOk_mk (nm := [0, 1]) (by kernel_rfl) (by kernel_rfl) rfl spNo_ok)
theorem F68_ok : FnIn prog (cD prog) 68 F68 := .inl (fnOk_mk (nm := [0, 2]) (by kernel_rfl) (by kernel_rfl) rfl spNo_ok)
theorem F69_ok : FnIn prog (cD prog) 69 F69 := .inl (fnOk_mk (nm := [0, 1, 4, 5, 6]) (by kernel_rfl) (by kernel_rfl) rfl spNo_ok)
theorem F71_ok : FnIn prog (cD prog) 71 F71 := .inl (fnOk_mk (nm := [0, 1, 4, 5, 6]) (by kernel_rfl) (by kernel_rfl) rfl spNo_ok)
theorem F77_ok : FnIn prog (cD prog) 77 F77 := .inl (fnOk_mk (nm := [0, 1, 4, 5, 6]) (by kernel_rfl) (by kernel_rfl) rfl spNo_ok)
theorem F82_ok : FnIn prog (cD prog) 82 F82 := .inl (fnOk_mk (nm := [0, 1, 3]) (by kernel_rfl) (by kernel_rfl) rfl spNo_ok)
theorem F87_ok : FnIn prog (cD prog) 87 F87 := .inl (fnOk_mk (nm := [0, 2, 3, 4, 5, 6, 7, 8]) (by kernel_rfl) (by kernel_rfl) rfl spNo_ok)
theorem F89_ok : FnIn prog (cD prog) 89 F89 := .inl (fnOk_mk (nm := [0, 2, 3, 4, 5, 6, 61]) (by kernel_rfl) (by kernel_rfl) rfl spNo_ok)
theorem F92_ok : FnIn prog (cD prog) 92 F92 := .inl (fnOk_mk (nm := [0, 2, 3, 4, 5, 6, 7, 8, 9, 10, 11, 12]) (by kernel_rfl) (by kernel_rfl) rfl spNo_ok)
theorem F94_ok : FnIn prog (cD prog) 94 F94 := .inl (fnOk_mk (nm := [0, 2]) (by kernel_rfl) (by kernel_rfl) rfl spNo_ok)
theorem F95_ok : FnIn prog (cD prog) 95 F95 := .inl (fnOk_mk (nm := [0, 1, 2, 6]) (by kernel_rfl) (by kernel_rfl) rfl spNo_ok)
theorem F100_ok : FnIn prog (cD prog) 100 F100 := .inl (fnOk_mk (nm := [0, 1, 4]) (by kernel_rfl) (by kernel_rfl) rfl spNo_ok)
theorem F109_ok : FnIn prog (cD prog) 109 F109 := .inl (fnOk_mk (nm := [0, 1, 4, 5, 12, 13, 14]) (by kernel_rfl) (by kernel_rfl) rfl spNo_ok)
theorem F113_ok : FnIn prog (cD prog) 113 F113 := .inl (fnOk_mk (nm := [0, 1, 2, 4, 5, 6, 7, 8, 9, 10, 11, 13, 14, 16, 26, 27, 28, 37, 38, 39, 40, 54, 55, 56, 64, 65, 66, 67, 95]) (by kernel_rfl) (by kernel_rfl) rfl spNo_ok)
theorem F118_ok : FnIn prog (cD prog) 118 F118 := .inl (fnOk_mk (nm := [0, 2, 3, 4, 7]) (by kernel_rfl) (by kernel_rfl) rfl spNo_ok)
theorem F119_ok : FnIn prog (cD prog) 119 F119 := .inl (fnOk_mk (nm := [0, 1, 4, 5, 7, 8, 9]) (by kernel_rfl) (by kernel_rfl) rfl spNo_ok)
theorem F121_ok : FnIn prog (cD prog) 121 F121 := .inl (fnOk_mk (nm := [0, 1, 4, 5, 6, 7, 19, 20, 21]) (by kernel_rfl) (by kernel_rfl) rfl spNo_ok)
theorem F145_ok : FnIn prog (cD prog) 145 F145 := .inl (fnOk_mk (nm := [0, 1, 4, 5, 6, 7, 8, 9, 22]) (by kernel_rfl) (by kernel_rfl) rfl spNo_ok)
theorem F152_ok : FnIn prog (cD prog) 152 F152 := .inl (fnOk_mk (nm := [0, 2, 3]) (by kernel_rfl) (by kernel_rfl) rfl spNo_ok)
theorem F157_ok : FnIn prog (cD prog) 157 F157 := .inl (fnOk_mk (nm := [0, 1, 3]) (by kernel_rfl) (by kernel_rfl) rfl spNo_ok)
theorem F158_ok : FnIn prog (cD prog) 158 F158 := .inl (fnOk_mk (nm := [0, 1, 2, 4, 6, 7, 12, 13, 20, 27, 34]) (by kernel_rfl) (by kernel_rfl) rfl spNo_ok)
theorem F162_ok : FnIn prog (cD prog) 162 F162 := .inl (fnOk_mk (nm := [0, 1, 3]) (by kernel_rfl) (by kernel_rfl) rfl spNo_ok)
theorem F168_ok : FnIn prog (cD prog) 168 F168 := .inl (fnOk_mk (nm := [0, 2]) (by kernel_rfl) (by kernel_rfl) rfl spNo_ok)
theorem F170_ok : FnIn prog (cD prog) 170 F170 := .inl (fnOk_mk (nm := [0, 1, 2, 6]) (by kernel_rfl) (by kernel_rfl) rfl spNo_ok)
theorem F172_ok : FnIn prog (cD prog) 172 F172 := .inl (fnOk_mk (nm := [0, 2]) (by kernel_rfl) (by kernel_rfl) rfl spNo_ok)
theorem F176_ok : FnIn prog (cD prog) 176 F176 := .inl (fnOk_mk (nm := [0, 1, 2, 4, 5]) (by kernel_rfl) (by kernel_rfl) rfl spNo_ok)
theorem F177_ok : FnIn prog (cD prog) 177 F177 := .inl (fnOk_mk (nm := [0, 1, 2, 3, 8, 9, 10, 11]) (by kernel_rfl) (by kernel_rfl) rfl spNo_ok)
theorem F189_ok : FnIn prog (cD prog) 189 F189 := .inl (fnOk_mk (nm := [0, 1, 2, 6]) (by kernel_rfl) (by kernel_rfl) rfl spNo_ok)
theorem F193_ok : FnIn prog (cD prog) 193 F193 := .inl (fnOk_mk (nm := [0, 2]) (by kernel_rfl) (by kernel_rfl) rfl spNo_ok)
theorem F195_ok : FnIn prog (cD prog) 195 F195 := .inl (fnOk_mk (nm := [0, 1, 2, 3, 6, 7, 8, 9, 10, 11]) (by kernel_rfl) (by kernel_rfl) rfl spNo_ok)
theorem F197_ok : FnIn prog (cD prog) 197 F197 := .inl (fnOk_mk (nm := [0, 1, 4, 5]) (by kernel_rfl) (by kernel_rfl) rfl spNo_ok)
theorem F203_ok : FnIn prog (cD prog) 203 F203 := .inl (fnOk_mk (nm := [0, 1, 2, 6, 7, 8, 9, 10]) (by kernel_rfl) (by kernel_rfl) rfl spNo_ok)
theorem F207_ok : FnIn prog (cD prog) 207 F207 := .inl (fnOk_mk (nm := [0, 2]) (by kernel_rfl) (by kernel_rfl) rfl spNo_ok)
theorem F208_ok : FnIn prog (cD prog) 208 F208 := .inl (fnOk_mk (nm := [0, 2]) (by kernel_rfl) (by kernel_rfl) rfl spNo_ok)
theorem F210_ok : FnIn prog (cD prog) 210 F210 := .inl (fnOk_mk (nm := [0, 2]) (by kernel_rfl) (by kernel_rfl) rfl spNo_ok)
theorem F213_ok : FnIn prog (cD prog) 213 F213 := .inl (fnOk_mk (nm := [0, 1, 2, 6, 7]) (by kernel_rfl) (by kernel_rfl) rfl spNo_ok)
theorem F216_ok : FnIn prog (cD prog) 216 F216 := .inl (fnOk_mk (nm := [0, 1, 2, 6, 7, 8, 9, 10]) (by kernel_rfl) (by kernel_rfl) rfl spNo_ok)
theorem F224_ok : FnIn prog (cD prog) 224 F224 := .inl (fnOk_mk (nm := [0, 1, 2, 6]) (by kernel_rfl) (by kernel_rfl) rfl spNo_ok)
theorem F226_ok : FnIn prog (cD prog) 226 F226 := .inl (fnOk_mk (nm := [0, 2]) (by kernel_rfl) (by kernel_rfl) rfl spNo_ok)
theorem F230_ok : FnIn prog (cD prog) 230 F230 := .inl (fnOk_mk (nm := [0, 1, 4]) (by kernel_rfl) (by kernel_rfl) rfl spNo_ok)
theorem F231_ok : FnIn prog (cD prog) 231 F231 := .inl (fnOk_mk (nm := [0, 1, 2, 3, 8, 9]) (by kernel_rfl) (by kernel_rfl) rfl spNo_ok)
end
end Go.X
