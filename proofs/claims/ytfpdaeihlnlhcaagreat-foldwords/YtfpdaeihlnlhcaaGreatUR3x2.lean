/- A part of the proof of this statement: FoldWords: for every input the law answers true and leaves its argument as it was. -/
import Derived.Test.YtfpdaeihlnlhcaaGreatUR3d
import Derived.KernelRfl
set_option linter.unusedSectionVars false
set_option linter.unusedVariables false
set_option linter.unusedSimpArgs false
set_option linter.constructorNameAsVariable false
namespace Go.X
set_option maxRecDepth 100000
theorem rn3_r1_4_0 (v u : AV) : rn3 (.lit (.ofNat 1)) (.lit (.ofNat 4)) (.v 5) (.v 6) v u = true := by kernel_rfl
theorem rn3_r3_6_0 (v u : AV) : rn3 (.lit (.ofNat 3)) (.lit (.ofNat 6)) (.v 5) (.v 6) v u = true := by kernel_rfl
theorem rn3_r4_7_6 (v u : AV) : rn3 (.lit (.ofNat 4)) (.lit (.ofNat 7)) (.qx (q3 6 false 48 false 48)) (.qy (q3 6 false 48 false 48)) v u = true := by kernel_rfl
theorem rn3_r5_7_4 (v u : AV) : rn3 (.lit (.ofNat 5)) (.lit (.ofNat 7)) (.qx (q3 4 false 48 false 48)) (.qy (q3 4 false 48 false 48)) v u = true := by kernel_rfl
theorem rn3_r7_1_10 (v u : AV) : rn3 (.lit (.ofNat 7)) (.lit (.ofNat 1)) (.md 2 1 5) (.md 2 0 6) v u = true := by kernel_rfl
theorem rn3_r8_8_0 (v u : AV) : rn3 (.lit (.ofNat 8)) (.lit (.ofNat 8)) (.v 5) (.v 6) v u = true := by kernel_rfl
theorem rn3_r10_3_7 (v u : AV) : rn3 (.lit (.ofNat 10)) (.lit (.ofNat 3)) (.qx (q3 7 true 48 false 0)) (.qy (q3 7 true 48 false 0)) v u = true := by kernel_rfl
theorem rn3_r11_2_3 (v u : AV) : rn3 (.lit (.ofNat 11)) (.lit (.ofNat 2)) (.qx (q3 3 true 56 true 56)) (.qy (q3 3 true 56 true 56)) v u = true := by kernel_rfl
theorem rn3_r11_9_2 (v u : AV) : rn3 (.lit (.ofNat 11)) (.lit (.ofNat 9)) (.qx (q3 2 false 0 false 0)) (.qy (q3 2 false 0 false 0)) v u = true := by kernel_rfl
theorem rn3_r12_6_2 (v u : AV) : rn3 (.lit (.ofNat 12)) (.lit (.ofNat 6)) (.qx (q3 2 false 56 false 56)) (.qy (q3 2 false 56 false 56)) v u = true := by kernel_rfl
theorem rn3_r13_4_3 (v u : AV) : rn3 (.lit (.ofNat 13)) (.lit (.ofNat 4)) (.qx (q3 3 true 32 true 32)) (.qy (q3 3 true 32 true 32)) v u = true := by kernel_rfl
theorem rn3_r14_3_1 (v u : AV) : rn3 (.lit (.ofNat 14)) (.lit (.ofNat 3)) (.qx (q3 1 true 48 true 48)) (.qy (q3 1 true 48 true 48)) v u = true := by kernel_rfl
theorem rn3_r14_9_3 (v u : AV) : rn3 (.lit (.ofNat 14)) (.lit (.ofNat 9)) (.qx (q3 3 false 0 false 0)) (.qy (q3 3 false 0 false 0)) v u = true := by kernel_rfl
theorem rn3_r15_8_1 (v u : AV) : rn3 (.lit (.ofNat 15)) (.lit (.ofNat 8)) (.qx (q3 1 false 32 false 32)) (.qy (q3 1 false 32 false 32)) v u = true := by kernel_rfl
theorem rn3_r16_6_2 (v u : AV) : rn3 (.lit (.ofNat 16)) (.lit (.ofNat 6)) (.qx (q3 2 false 56 false 56)) (.qy (q3 2 false 56 false 56)) v u = true := by kernel_rfl
theorem rn3_r15_7_2 (v u : AV) : rn3 (.lit (.ofNat 15)) (.lit (.ofNat 7)) (.qx (q3 2 false 48 false 48)) (.qy (q3 2 false 48 false 48)) v u = true := by kernel_rfl
end Go.X
