/- An executable reading of the model, its soundness over any program, and what it reads of this program. -/
import Derived.Test.YtfpdaeihlnlhcaaGreatUG2
import Derived.Test.YtfpdaeihlnlhcaaGreatUXSo
import Derived.Test.YtfpdaeihlnlhcaaGreatUWG
import Derived.Test.YtfpdaeihlnlhcaaGreatProg
import Derived.KernelRfl
set_option linter.unusedSectionVars false
set_option linter.unusedVariables false
set_option linter.unusedSimpArgs false
set_option linter.constructorNameAsVariable false
namespace Go.X
open Go.Proofs.Tryz
set_option maxRecDepth 100000
noncomputable section
theorem F4_ok : FnIn prog (cD prog) 4 F4 := .inl (fnOk_mk (nm := [0, 1, 2, 3, 4, 5, 6]) (by kernel_rfl) (by kernel_rfl) rfl spNo_ok)
theorem F6_ok : FnIn prog (cD prog) 6 F6 := .inl (fnOk_mk (nm := [0, 1]) (by kernel_rfl) (by kernel_rfl) rfl spNo_ok)
theorem F11_ok : FnIn prog (cD prog) 11 F11 := .inl (fnOk_mk (nm := [0, 2]) (by kernel_rfl) (by kernel_rfl) rfl spNo_ok)
theorem F20_ok : FnIn prog (cD prog) 20 F20 := .inl (fnOk_mk (nm := [0, 1, 3, 4, 5]) (by kernel_rfl) (by kernel_rfl) rfl spNo_ok)
theorem F21_ok : FnIn prog (cD prog) 21 F21 := .inl (fnOk_mk (nm := [0, 2]) (by kernel_rfl) (by kernel_rfl) rfl spNo_ok)
theorem F22_ok : FnIn prog (cD prog) 22 F22 := .inl (fnOk_mk (nm := [0, 1, 2]) (by kernel_rfl) (by kernel_rfl) rfl spNo_ok)
theorem F24_ok : FnIn prog (cD prog) 24 F24 := .inl (fnOk_mk (nm := [0, 2]) (by kernel_rfl) (by kernel_rfl) rfl spNo_ok)
theorem F28_ok : FnIn prog (cD prog) 28 F28 := .inl (fnOk_mk (nm := [0, 2]) (by kernel_rfl) (by kernel_rfl) rfl spNo_ok)
theorem F36_ok : FnIn prog (cD prog) 36 F36 := .inl (fnOk_mk (nm := [0, 1, 2, 6]) (by kernel_rfl) (by kernel_rfl) rfl spNo_ok)
theorem F40_ok : FnIn prog (cD prog) 40 F40 := .inl (fnOk_mk (nm := [0, 2]) (by kernel_rfl) (by kernel_rfl) rfl spNo_ok)
theorem F47_ok : FnIn prog (cD prog) 47 F47 := .inl (fnOk_mk (nm := [0, 2, 3, 4, 12, 13, 14]) (by kernel_rfl) (by kernel_rfl) rfl spNo_ok)
theorem F48_ok : FnIn prog (cD prog) 48 F48 := .inl (fnOk_mk (nm := [0, 2, 3]) (by kernel_rfl) (by kernel_rfl) rfl spNo_ok)
theorem F50_ok : FnIn prog (cD prog) 50 F50 := .inl (fnOk_mk (nm := [0, 1, 2, 4, 5, 6, 12, 13, 14, 31, 32, 33]) (by kernel_rfl) (by kernel_rfl) rfl spNo_ok)
theorem F53_ok : FnIn prog (cD prog) 53 F53 := .inl (fnOk_mk (nm := [0, 2, 4, 5, 6, 7, 8, 10, 20, 21, 22, 23, 34, 35, 36, 82, 83, 84, 98, 99, 100, 101]) (by kernel_rfl) (by kernel_rfl) rfl spNo_ok)
theorem F54_ok : FnIn prog (cD prog) 54 F54 := .inl (fnOk_mk (nm := [0, 1, 4]) (by kernel_rfl) (by kernel_rfl) rfl spNo_ok)
theorem F57_ok : FnIn prog (cD prog) 57 F57 := .inl (fnOk_mk (nm := [0, 1, 2, 4, 5, 6]) (by kernel_rfl) (by kernel_rfl) rfl spNo_ok)
theorem F58_ok : FnIn prog (cD prog) 58 F58 := .inl (fnOk_mk (nm := [0, 1, 2, 3, 6, 7, 8]) (by kernel_rfl) (by kernel_rfl) rfl spNo_ok)
theorem F65_ok : FnIn prog (cD prog) 65 F65 := .inl (fnOk_mk (nm := [0, 2, 3, 4, 6, 7, 12, 13, 14, 15, 48, 49, 50, 51, 59]) (by kernel_rfl) (by kernel_rfl) rfl spNo_ok)
theorem F66_ok : FnIn prog (cD prog) 66 F66 := .inl (fnOk_mk (nm := [0, 1, 2, 3, 4, 5, 6, 7, 8, 37, 38, 39, 40, 45, 46, 47, 48, 61, 62, 63, 64]) (by kernel_rfl) (by kernel_rfl) rfl spNo_ok)
theorem F72_ok : FnIn prog (cD prog) 72 F72 := .inl (fnOk_mk (nm := [0, 1, 4, 5, 6, 7, 39, 42]) (by kernel_rfl) (by kernel_rfl) rfl spNo_ok)
theorem F83_ok : FnIn prog (cD prog) 83 F83 := .inl (fnOk_mk (nm := [0, 1, 2]) (by kernel_rfl) (by kernel_rfl) rfl spNo_ok)
theorem F88_ok : FnIn prog (cD prog) 88 F88 := .inl (fnOk_mk (nm := [0, 1, 2, 3, 4, 5, 6, 7, 8]) (by kernel_rfl) (by kernel_rfl) rfl spNo_ok)
theorem F98_ok : FnIn prog (cD prog) 98 F98 := .inl (fnOk_mk (nm := [0, 1, 2]) (by kernel_rfl) (by kernel_rfl) rfl spNo_ok)
theorem F99_ok : FnIn prog (cD prog) 99 F99 := .inl (fnOk_mk (nm := [0, 1, 4]) (by kernel_rfl) (by kernel_rfl) rfl spNo_ok)
theorem F102_ok : FnIn prog (cD prog) 102 F102 := .inl (fnOk_mk (nm := [0, 1, 3, 4]) (by kernel_rfl) (by kernel_rfl) rfl spNo_ok)
theorem F104_ok : FnIn prog (cD prog) 104 F104 := .inl (fnOk_mk (nm := [0, 3, 25, 26, 27, 28]) (by kernel_rfl) (by kernel_rfl) rfl spNo_ok)
theorem F112_ok : FnIn prog (cD prog) 112 F112 := .inl (fnOk_mk (nm := [0, 1, 4, 6, 7, 8, 9, 10]) (by kernel_rfl) (by kernel_rfl) rfl spNo_ok)
theorem F124_ok : FnIn prog (cD prog) 124 F124 := .inl (fnOk_mk (nm := [0, 1, 2, 3]) (by kernel_rfl) (by kernel_rfl) rfl spNo_ok)
theorem F125_ok : FnIn prog (cD prog) 125 F125 := .inl (fnOk_mk (nm := [0, 1, 2, 6]) (by kernel_rfl) (by kernel_rfl) rfl spNo_ok)
theorem F126_ok : FnIn prog (cD prog) 126 F126 := .inl (fnOk_mk (nm := [0]) (by kernel_rfl) (by kernel_rfl) rfl spNo_ok)
theorem F127_ok : FnIn prog (cD prog) 127 F127 := .inl (fnOk_mk (nm := [0, 1, 2]) (by kernel_rfl) (by kernel_rfl) rfl spNo_ok)
theorem F133_ok : FnIn prog (cD prog) 133 F133 := .inl (fnOk_mk (nm := [0, 1, 4, 5, 6, 7]) (by kernel_rfl) (by kernel_rfl) rfl spNo_ok)
theorem F137_ok : FnIn prog (cD prog) 137 F137 := .inl (fnOk_mk (nm := [0, 1, 4, 5, 6, 7, 8, 9]) (by kernel_rfl) (by kernel_rfl) rfl spNo_ok)
theorem F138_ok : FnIn prog (cD prog) 138 F138 := .inl (fnOk_mk (nm := [0, 1, 2]) (by kernel_rfl) (by kernel_rfl) rfl spNo_ok)
theorem F140_ok : FnIn prog (cD prog) 140 F140 := .inl (fnOk_mk (nm := [0, 1, 2, 3, 4]) (by kernel_rfl) (by kernel_rfl) rfl spNo_ok)
theorem F154_ok : FnIn prog (cD prog) 154 F154 := .inl (fnOk_mk (nm := [0, 1, 4, 5]) (by kernel_rfl) (by kernel_rfl) rfl spNo_ok)
theorem F159_ok : FnIn prog (cD prog) 159 F159 := .inl (fnOk_mk (nm := [0, 2, 3, 4, 5]) (by kernel_rfl) (by kernel_rfl) rfl spNo_ok)
theorem F163_ok : FnIn prog (cD prog) 163 F163 := .inl (fnOk_mk (nm := [0, 1, 3]) (by kernel_rfl) (by kernel_rfl) rfl spNo_ok)
theorem F166_ok : FnIn prog (cD prog) 166 F166 := .inl (fnOk_mk (nm := [0, 1, 2, 4, 6, 8, 9, 10]) (by kernel_rfl) (by kernel_rfl) rfl spNo_ok)
theorem F169_ok : FnIn prog (cD prog) 169 F169 := .inl (fnOk_mk (nm := [0, 1, 2, 3, 6]) (by kernel_rfl) (by kernel_rfl) rfl spNo_ok)
theorem F175_ok : FnIn prog (cD prog) 175 F175 := .inl (fnOk_mk (nm := [0, 2]) (by kernel_rfl) (by kernel_rfl) rfl spNo_ok)
theorem F178_ok : FnIn prog (cD prog) 178 F178 := .inl (fnOk_mk (nm := [0, 2]) (by kernel_rfl) (by kernel_rfl) rfl spNo_ok)
theorem F181_ok : FnIn prog (cD prog) 181 F181 := .inl (fnOk_mk (nm := [0, 1, 2, 4, 5]) (by kernel_rfl) (by kernel_rfl) rfl spNo_ok)
theorem F185_ok : FnIn prog (cD prog) 185 F185 := .inl (fnOk_mk (nm := [0, 1, 4, 5]) (by kernel_rfl) (by kernel_rfl) rfl spNo_ok)
theorem F186_ok : FnIn prog (cD prog) 186 F186 := .inl (fnOk_mk (nm := [0, 1, 3, 4, 5, 6, 7, 8]) (by kernel_rfl) (by kernel_rfl) rfl spNo_ok)
theorem F187_ok : FnIn prog (cD prog) 187 F187 := .inl (fnOk_mk (nm := [0, 1, 4]) (by kernel_rfl) (by kernel_rfl) rfl spNo_ok)
theorem F190_ok : FnIn prog (cD prog) 190 F190 := .inl (fnOk_mk (nm := [0, 1, 2, 3, 4, 8, 9, 10]) (by kernel_rfl) (by kernel_rfl) rfl spNo_ok)
theorem F194_ok : FnIn prog (cD prog) 194 F194 := .inl (fnOk_mk (nm := [0, 1, 2, 6, 7, 8, 9, 10, 11, 12, 13, 14, 15, 16, 18, 65]) (by kernel_rfl) (by kernel_rfl) rfl spNo_ok)
theorem F196_ok : FnIn prog (cD prog) 196 F196 := .inl (fnOk_mk (nm := [0, 1, 2, 4, 6, 7, 8]) (by kernel_rfl) (by kernel_rfl) rfl spNo_ok)
theorem F201_ok : FnIn prog (cD prog) 201 F201 := .inl (fnOk_mk (nm := [0, 1, 2, 6, 7, 8, 9, 10, 11, 12, 49]) (by kernel_rfl) (by kernel_rfl) rfl spNo_ok)
theorem F205_ok : FnIn prog (cD prog) 205 F205 := .inl (fnOk_mk (nm := [0, 1, 2, 3, 8, 9, 10]) (by kernel_rfl) (by kernel_rfl) rfl spNo_ok)
theorem F206_ok : FnIn prog (cD prog) 206 F206 := .inl (fnOk_mk (nm := [0, 1, 2, 3, 8, 9, 10, 11]) (by kernel_rfl) (by kernel_rfl) rfl spNo_ok)
theorem F214_ok : FnIn prog (cD prog) 214 F214 := .inl (fnOk_mk (nm := [0, 1, 2, 6]) (by kernel_rfl) (by kernel_rfl) rfl spNo_ok)
theorem F220_ok : FnIn prog (cD prog) 220 F220 := .inl (fnOk_mk (nm := [0, 1, 2, 3, 4]) (by kernel_rfl) (by kernel_rfl) rfl spNo_ok)
theorem F225_ok : FnIn prog (cD prog) 225 F225 := .inl (fnOk_mk (nm := [0, 1, 2, 3, 4, 10]) (by kernel_rfl) (by kernel_rfl) rfl spNo_ok)
end
end Go.X
