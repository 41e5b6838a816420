/- An executable reading of the model, its soundness over any program, and what it reads of this program. -/
import Derived.Test.YtcinkldpihkhbaaGreatVG2
import Derived.Test.YtcinkldpihkhbaaGreatVXSo
import Derived.Test.YtcinkldpihkhbaaGreatProg
import Derived.Test.YtcinkldpihkhbaaGreatVInsP
import Derived.KernelRfl
set_option linter.unusedSectionVars false
set_option linter.unusedVariables false
set_option linter.unusedSimpArgs false
set_option linter.constructorNameAsVariable false
namespace Go.X
open Go.Proofs.Tryz
set_option maxRecDepth 100000
noncomputable section
theorem F15_ok : FnIn prog (cD prog) 15 F15 := .inl (fnOk_mk (nm := [0, 1]) (by kernel_rfl) (by kernel_rfl) rfl)
theorem F18_ok : FnIn prog (cD prog) 18 F18 := .inl (fnOk_mk (nm := [0, 2]) (by kernel_rfl) (by kernel_rfl) rfl)
theorem F23_ok : FnIn prog (cD prog) 23 F23 := .inl (fnOk_mk (nm := [0, 1, 2]) (by kernel_rfl) (by kernel_rfl) rfl)
theorem F26_ok : FnIn prog (cD prog) 26 F26 := .inl (fnOk_mk (nm := [0, 1, 3, 4, 5]) (by kernel_rfl) (by kernel_rfl) rfl)
theorem F64_ok : FnIn prog (cD prog) 64 F64 := .inl (fnOk_mk (nm := [0, 2]) (by kernel_rfl) (by kernel_rfl) rfl)
theorem F71_ok : FnIn prog (cD prog) 71 F71 := .inl (fnOk_mk (nm := [0, 1, 2, 3, 4]) (by kernel_rfl) (by kernel_rfl) rfl)
theorem F73_ok : FnIn prog (cD prog) 73 F73 := .inl (fnOk_mk (nm := [0, 1, 2]) (by kernel_rfl) (by kernel_rfl) rfl)
theorem F90_ok : FnIn prog (cD prog) 90 F90 := .inl (fnOk_mk (nm := [0, 1, 4]) (by kernel_rfl) (by kernel_rfl) rfl)
theorem F92_ok : FnIn prog (cD prog) 92 F92 := .inl (fnOk_mk (nm := [0, 2]) (by kernel_rfl) (by kernel_rfl) rfl)
theorem F95_ok : FnIn prog (cD prog) 95 F95 := .inl (fnOk_mk (nm := [0, 1, 4, 5]) (by kernel_rfl) (by kernel_rfl) rfl)
theorem F96_ok : FnIn prog (cD prog) 96 F96 := .inl (fnOk_mk (nm := [0, 1, 2, 6, 7]) (by kernel_rfl) (by kernel_rfl) rfl)
theorem F97_ok : FnIn prog (cD prog) 97 F97 := .inl (fnOk_mk (nm := [0, 1, 2, 3, 8]) (by kernel_rfl) (by kernel_rfl) rfl)
theorem F105_ok : FnIn prog (cD prog) 105 F105 := .inl (fnOk_mk (nm := [0, 2, 3, 6, 9, 12, 15, 18]) (by kernel_rfl) (by kernel_rfl) rfl)
theorem F106_ok : FnIn prog (cD prog) 106 F106 := .inl (fnOk_mk (nm := [0, 1, 2, 4, 5, 24, 25, 26, 27]) (by kernel_rfl) (by kernel_rfl) rfl)
theorem F116_ok : FnIn prog (cD prog) 116 F116 := .inl (fnOk_mk (nm := [0, 1, 2, 6]) (by kernel_rfl) (by kernel_rfl) rfl)
theorem F122_ok : FnIn prog (cD prog) 122 F122 := .inl (fnOk_mk (nm := [0, 1, 2, 3, 4, 5, 6, 7]) (by kernel_rfl) (by kernel_rfl) rfl)
theorem F123_ok : FnIn prog (cD prog) 123 F123 := .inl (fnOk_mk (nm := [0, 1, 2, 3, 6]) (by kernel_rfl) (by kernel_rfl) rfl)
theorem F137_ok : FnIn prog (cD prog) 137 F137 := .inr ⟨rfl, rfl, insOk⟩
theorem F139_ok : FnIn prog (cD prog) 139 F139 := .inl (fnOk_mk (nm := [0, 2]) (by kernel_rfl) (by kernel_rfl) rfl)
theorem F150_ok : FnIn prog (cD prog) 150 F150 := .inl (fnOk_mk (nm := [0, 2, 3, 4, 5, 7, 8, 9, 10, 11, 13, 28, 29, 30, 31, 36, 48, 49, 50, 51, 76, 77, 78, 79, 108, 109, 110, 111]) (by kernel_rfl) (by kernel_rfl) rfl)
theorem F161_ok : FnIn prog (cD prog) 161 F161 := .inl (fnOk_mk (nm := [0, 2, 3, 4, 5, 6, 7, 8, 9, 10, 11, 12]) (by kernel_rfl) (by kernel_rfl) rfl)
theorem F174_ok : FnIn prog (cD prog) 174 F174 := .inl (fnOk_mk (nm := [0, 1, 4, 5, 7, 8, 9, 10, 11, 15, 16, 17, 18]) (by kernel_rfl) (by kernel_rfl) rfl)
theorem F176_ok : FnIn prog (cD prog) 176 F176 := .inl (fnOk_mk (nm := [0, 1, 2, 4]) (by kernel_rfl) (by kernel_rfl) rfl)
theorem F181_ok : FnIn prog (cD prog) 181 F181 := .inl (fnOk_mk (nm := [0, 1, 4, 5]) (by kernel_rfl) (by kernel_rfl) rfl)
theorem F184_ok : FnIn prog (cD prog) 184 F184 := .inl (fnOk_mk (nm := [0, 2, 3]) (by kernel_rfl) (by kernel_rfl) rfl)
theorem F199_ok : FnIn prog (cD prog) 199 F199 := .inl (fnOk_mk (nm := [0, 1, 3, 4]) (by kernel_rfl) (by kernel_rfl) rfl)
theorem F200_ok : FnIn prog (cD prog) 200 F200 := .inl (fnOk_mk (nm := [0, 2]) (by kernel_rfl) (by kernel_rfl) rfl)
theorem F201_ok : FnIn prog (cD prog) 201 F201 := .inl (fnOk_mk (nm := [0, 3, 25, 26, 27, 28]) (by kernel_rfl) (by kernel_rfl) rfl)
theorem F214_ok : FnIn prog (cD prog) 214 F214 := .inl (fnOk_mk (nm := [0, 1, 2]) (by kernel_rfl) (by kernel_rfl) rfl)
theorem F215_ok : FnIn prog (cD prog) 215 F215 := .inl (fnOk_mk (nm := [0, 1, 2, 4, 6, 7, 32]) (by kernel_rfl) (by kernel_rfl) rfl)
theorem F224_ok : FnIn prog (cD prog) 224 F224 := .inl (fnOk_mk (nm := [0, 1, 2, 3, 8]) (by kernel_rfl) (by kernel_rfl) rfl)
theorem F226_ok : FnIn prog (cD prog) 226 F226 := .inl (fnOk_mk (nm := [0, 1, 2, 4, 6, 7, 8, 9, 10, 11, 12, 13]) (by kernel_rfl) (by kernel_rfl) rfl)
theorem F227_ok : FnIn prog (cD prog) 227 F227 := .inl (fnOk_mk (nm := [0, 1, 3, 4, 5, 6]) (by kernel_rfl) (by kernel_rfl) rfl)
theorem F229_ok : FnIn prog (cD prog) 229 F229 := .inl (fnOk_mk (nm := [0, 1, 2, 6, 7, 8, 9, 10, 11, 12, 13, 14, 15, 16, 18, 65]) (by kernel_rfl) (by kernel_rfl) rfl)
theorem F231_ok : FnIn prog (cD prog) 231 F231 := .inl (fnOk_mk (nm := [0, 1, 2, 4, 6, 7, 8]) (by kernel_rfl) (by kernel_rfl) rfl)
theorem F243_ok : FnIn prog (cD prog) 243 F243 := .inl (fnOk_mk (nm := [0, 1, 2, 3]) (by kernel_rfl) (by kernel_rfl) rfl)
theorem F258_ok : FnIn prog (cD prog) 258 F258 := .inl (fnOk_mk (nm := [0, 1, 2, 3, 8, 9, 10, 11, 12, 13, 14, 15, 16, 17, 18]) (by kernel_rfl) (by kernel_rfl) rfl)
theorem F260_ok : FnIn prog (cD prog) 260 F260 := .inl (fnOk_mk (nm := [0, 1, 3]) (by kernel_rfl) (by kernel_rfl) rfl)
theorem F262_ok : FnIn prog (cD prog) 262 F262 := .inl (fnOk_mk (nm := [0, 1, 4]) (by kernel_rfl) (by kernel_rfl) rfl)
theorem F267_ok : FnIn prog (cD prog) 267 F267 := .inl (fnOk_mk (nm := [0, 1, 3, 4, 6, 7]) (by kernel_rfl) (by kernel_rfl) rfl)
theorem F269_ok : FnIn prog (cD prog) 269 F269 := .inl (fnOk_mk (nm := [0, 2, 3, 4, 9, 14, 19]) (by kernel_rfl) (by kernel_rfl) rfl)
theorem F271_ok : FnIn prog (cD prog) 271 F271 := .inl (fnOk_mk (nm := [0, 1, 2, 4, 5]) (by kernel_rfl) (by kernel_rfl) rfl)
theorem F276_ok : FnIn prog (cD prog) 276 F276 := .inl (fnOk_mk (nm := [0, 1, 2, 6]) (by kernel_rfl) (by kernel_rfl) rfl)
theorem F278_ok : FnIn prog (cD prog) 278 F278 := .inl (fnOk_mk (nm := [0, 1, 2, 4, 5]) (by kernel_rfl) (by kernel_rfl) rfl)
theorem F281_ok : FnIn prog (cD prog) 281 F281 := .inl (fnOk_mk (nm := [0, 1, 2, 6]) (by kernel_rfl) (by kernel_rfl) rfl)
theorem F299_ok : FnIn prog (cD prog) 299 F299 := .inl (fnOk_mk (nm := [0, 2]) (by kernel_rfl) (by kernel_rfl) rfl)
theorem F300_ok : FnIn prog (cD prog) 300 F300 := .inl (fnOk_mk (nm := [0, 1, 2, 4, 5]) (by kernel_rfl) (by kernel_rfl) rfl)
theorem F302_ok : FnIn prog (cD prog) 302 F302 := .inl (fnOk_mk (nm := [0, 2]) (by kernel_rfl) (by kernel_rfl) rfl)
theorem F306_ok : FnIn prog (cD prog) 306 F306 := .inl (fnOk_mk (nm := [0, 1, 2, 6, 7, 8, 9, 10]) (by kernel_rfl) (by kernel_rfl) rfl)
theorem F311_ok : FnIn prog (cD prog) 311 F311 := .inl (fnOk_mk (nm := [0, 1, 2, 3, 8, 9, 10, 11]) (by kernel_rfl) (by kernel_rfl) rfl)
theorem F316_ok : FnIn prog (cD prog) 316 F316 := .inl (fnOk_mk (nm := [0, 1, 4]) (by kernel_rfl) (by kernel_rfl) rfl)
theorem F321_ok : FnIn prog (cD prog) 321 F321 := .inl (fnOk_mk (nm := [0, 1, 4, 5]) (by kernel_rfl) (by kernel_rfl) rfl)
theorem F328_ok : FnIn prog (cD prog) 328 F328 := .inl (fnOk_mk (nm := [0, 2]) (by kernel_rfl) (by kernel_rfl) rfl)
end
end Go.X
